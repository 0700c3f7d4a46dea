import Derived.Test.YtgbnefhfhgkpmaaPConfOpsx0
import Derived.Test.YtgbnefhfhgkpmaaQConfOpsx1
import Derived.Test.YtgbnefhfhgkpmaaQConfOpsx2
namespace Go.Proofs.Ytgbnefhfhgkpmaa.PConfOps
open Go.RowKit Go.Proofs.YtgbnefhfhgkpmaaW.PrintWords Go.Proofs.YtgbnefhfhgkpmaaW.PrintLast Go.Proofs.YtgbnefhfhgkpmaaW.PrintMore
attribute [local go_sem] max2_int min2_int max_two min_two max_three min_three max_four min_four   -- for this text's walks alone
set_option linter.unusedVariables false
set_option linter.unusedSimpArgs false

/-! ### revenantlaw03_ConfOps: function 5 -/
mutual
def revenantlaw03_ConfOps.j0 : Nat → Bool → Int → Int → Int → Int → Int → Int → Int → Int → Int → Int → Int → Int → Int → Int → Int → Int → Int → Int → Int → Option (Bool)
  | 0, _, _, _, _, _, _, _, _, _, _, _, _, _, _, _, _, _, _, _, _ => none
  | k + 1, x51, x171000, x171001, x171002, x171003, x178000, x178001, x178002, x178003, x178004, x179000, x179001, x179002, x179003, x179004, x180000, x180001, x180002, x180003, x180004 => if x51 = true then (some false) else ((conf_IsOp.f k x178000 x178001 x178002 x178003 x178004 x171000 x171001 x171002 x171003).bind fun t183 => ((conf_IsOp.f k x179000 x179001 x179002 x179003 x179004 x171000 x171001 x171002 x171003).bind fun t184 => (if x171000 = 8 then (if t183 = t184 then ((conf_IsOp.f k x180000 x180001 x180002 x180003 x180004 x171000 x171001 x171002 x171003).bind fun t185 => (some (t183 == t185))) else (some false)) else (if t183 = 8 then (revenantlaw03_ConfOps.j1 k t183 false x171000 x171001 x171002 x171003 x180000 x180001 x180002 x180003 x180004) else (revenantlaw03_ConfOps.j1 k t183 (t184 != 8) x171000 x171001 x171002 x171003 x180000 x180001 x180002 x180003 x180004)))))
def revenantlaw03_ConfOps.j1 : Nat → Int → Bool → Int → Int → Int → Int → Int → Int → Int → Int → Int → Option (Bool)
  | 0, _, _, _, _, _, _, _, _, _, _, _ => none
  | k + 1, x13, x76, x171000, x171001, x171002, x171003, x180000, x180001, x180002, x180003, x180004 => if x76 = true then (some false) else (if x171000 = 1 then ((conf_IsOp.f k x180000 x180001 x180002 x180003 x180004 x171000 x171001 x171002 1).bind fun t187 => (if ((t187 == 8) == (x13 == 8)) = true then (if x13 = 0 then ((conf_IsOp.f k x180000 x180001 x180002 x180003 x180004 x171000 x171001 x171002 1).bind fun t188 => (some (t188 == 0))) else (some true)) else (some false))) else ((conf_IsOp.f k x180000 x180001 x180002 x180003 x180004 x171000 x171001 x171002 x171003).bind fun t189 => (if ((t189 == 8) == (x13 == 8)) = true then (if x13 = 0 then ((conf_IsOp.f k x180000 x180001 x180002 x180003 x180004 x171000 x171001 x171002 x171003).bind fun t190 => (some (t190 == 0))) else (some true)) else (some false))))
end
def revenantlaw03_ConfOps.f (k : Nat) (a0 : Int) (a1 : Int) (a2 : Int) (a3_0 : Int) (a3_1 : Int) (a3_2 : Int) (a3_3 : Int) : Option (Bool) := (revenantlaw03_awake.f k).bind fun t171 => (if t171 = true then ((revenantlaw03_list.f (wrap64 (1 + (wrap64 (Int.tmod (IntKind.u64.wrap (a0)) 8388607))))).bind fun bt172 => ((conf_Check.f k bt172.1 bt172.2.1 bt172.2.2.1 bt172.2.2.2.1 bt172.2.2.2.2).bind fun t180 => (if t180 = 0 then ((conf_Check.f k 2 (wrap64 (1 + (wrap64 (Int.tmod (IntKind.u64.wrap (a0)) 8388607)))) (wrap64 (1 + (wrap64 (Int.tmod (IntKind.u64.wrap (a1)) 64)))) 1 2).bind fun t181 => (if t181 = 0 then ((conf_Check.f k 3 (wrap64 (1 + (wrap64 (Int.tmod (IntKind.u64.wrap (a0)) 8388607)))) 0 (wrap64 (1 + (wrap64 (Int.tmod (IntKind.u64.wrap (a2)) 16)))) 2).bind fun t182 => (revenantlaw03_ConfOps.j0 k (t182 != 0) a3_0 a3_1 a3_2 a3_3 bt172.1 bt172.2.1 bt172.2.2.1 bt172.2.2.2.1 bt172.2.2.2.2 2 (wrap64 (1 + (wrap64 (Int.tmod (IntKind.u64.wrap (a0)) 8388607)))) (wrap64 (1 + (wrap64 (Int.tmod (IntKind.u64.wrap (a1)) 64)))) 1 2 3 (wrap64 (1 + (wrap64 (Int.tmod (IntKind.u64.wrap (a0)) 8388607)))) 0 (wrap64 (1 + (wrap64 (Int.tmod (IntKind.u64.wrap (a2)) 16)))) 2)) else (revenantlaw03_ConfOps.j0 k true a3_0 a3_1 a3_2 a3_3 bt172.1 bt172.2.1 bt172.2.2.1 bt172.2.2.2.1 bt172.2.2.2.2 2 (wrap64 (1 + (wrap64 (Int.tmod (IntKind.u64.wrap (a0)) 8388607)))) (wrap64 (1 + (wrap64 (Int.tmod (IntKind.u64.wrap (a1)) 64)))) 1 2 3 (wrap64 (1 + (wrap64 (Int.tmod (IntKind.u64.wrap (a0)) 8388607)))) 0 (wrap64 (1 + (wrap64 (Int.tmod (IntKind.u64.wrap (a2)) 16)))) 2))) else (revenantlaw03_ConfOps.j0 k true a3_0 a3_1 a3_2 a3_3 bt172.1 bt172.2.1 bt172.2.2.1 bt172.2.2.2.1 bt172.2.2.2.2 2 (wrap64 (1 + (wrap64 (Int.tmod (IntKind.u64.wrap (a0)) 8388607)))) (wrap64 (1 + (wrap64 (Int.tmod (IntKind.u64.wrap (a1)) 64)))) 1 2 3 (wrap64 (1 + (wrap64 (Int.tmod (IntKind.u64.wrap (a0)) 8388607)))) 0 (wrap64 (1 + (wrap64 (Int.tmod (IntKind.u64.wrap (a2)) 16)))) 2)))) else (some false))
theorem revenantlaw03_ConfOps.mono_l : ∀ k, (∀ y0 y1 y2 y3 y4 y5 y6 y7 y8 y9 y10 y11 y12 y13 y14 y15 y16 y17 y18 y19, LeO (revenantlaw03_ConfOps.j0 k y0 y1 y2 y3 y4 y5 y6 y7 y8 y9 y10 y11 y12 y13 y14 y15 y16 y17 y18 y19) (revenantlaw03_ConfOps.j0 (k + 1) y0 y1 y2 y3 y4 y5 y6 y7 y8 y9 y10 y11 y12 y13 y14 y15 y16 y17 y18 y19)) ∧ (∀ y0 y1 y2 y3 y4 y5 y6 y7 y8 y9 y10, LeO (revenantlaw03_ConfOps.j1 k y0 y1 y2 y3 y4 y5 y6 y7 y8 y9 y10) (revenantlaw03_ConfOps.j1 (k + 1) y0 y1 y2 y3 y4 y5 y6 y7 y8 y9 y10))
  | 0 => ⟨fun _ _ _ _ _ _ _ _ _ _ _ _ _ _ _ _ _ _ _ _ r h => by simp [revenantlaw03_ConfOps.j0] at h, fun _ _ _ _ _ _ _ _ _ _ _ r h => by simp [revenantlaw03_ConfOps.j1] at h⟩
  | k + 1 => by
    obtain ⟨ih0, ih1⟩ := revenantlaw03_ConfOps.mono_l k
    refine ⟨?_, ?_⟩
    · intro y0 y1 y2 y3 y4 y5 y6 y7 y8 y9 y10 y11 y12 y13 y14 y15 y16 y17 y18 y19
      unfold revenantlaw03_ConfOps.j0
      repeat' first
      | (with_reducible exact ih0 _ _ _ _ _ _ _ _ _ _ _ _ _ _ _ _ _ _ _ _)
      | (with_reducible exact ih1 _ _ _ _ _ _ _ _ _ _ _)
      | (with_reducible exact conf_Check.mono _ _ _ _ _ _)
      | (with_reducible exact conf_IsOp.mono _ _ _ _ _ _ _ _ _ _)
      | (with_reducible exact revenantlaw03_awake.mono _)
      | (with_reducible exact LeO.refl _)
      | (with_reducible exact LeO.none _)
      | (with_reducible refine LeO.ite ?_ ?_)
      | (with_reducible refine LeO.bind ?_ (fun _ => ?_))
      | exact ih0 _ _ _ _ _ _ _ _ _ _ _ _ _ _ _ _ _ _ _ _
      | exact ih1 _ _ _ _ _ _ _ _ _ _ _
      | exact conf_Check.mono _ _ _ _ _ _
      | exact conf_IsOp.mono _ _ _ _ _ _ _ _ _ _
      | exact revenantlaw03_awake.mono _
      | exact LeO.none _
      | refine LeO.ite ?_ ?_
      | refine LeO.bind ?_ (fun _ => ?_)
    · intro y0 y1 y2 y3 y4 y5 y6 y7 y8 y9 y10
      unfold revenantlaw03_ConfOps.j1
      repeat' first
      | (with_reducible exact ih0 _ _ _ _ _ _ _ _ _ _ _ _ _ _ _ _ _ _ _ _)
      | (with_reducible exact ih1 _ _ _ _ _ _ _ _ _ _ _)
      | (with_reducible exact conf_Check.mono _ _ _ _ _ _)
      | (with_reducible exact conf_IsOp.mono _ _ _ _ _ _ _ _ _ _)
      | (with_reducible exact revenantlaw03_awake.mono _)
      | (with_reducible exact LeO.refl _)
      | (with_reducible exact LeO.none _)
      | (with_reducible refine LeO.ite ?_ ?_)
      | (with_reducible refine LeO.bind ?_ (fun _ => ?_))
      | exact ih0 _ _ _ _ _ _ _ _ _ _ _ _ _ _ _ _ _ _ _ _
      | exact ih1 _ _ _ _ _ _ _ _ _ _ _
      | exact conf_Check.mono _ _ _ _ _ _
      | exact conf_IsOp.mono _ _ _ _ _ _ _ _ _ _
      | exact revenantlaw03_awake.mono _
      | exact LeO.none _
      | refine LeO.ite ?_ ?_
      | refine LeO.bind ?_ (fun _ => ?_)
theorem revenantlaw03_ConfOps.mono : ∀ a0 a1 a2 a3 a4 a5 a6 k, LeO (revenantlaw03_ConfOps.f k a0 a1 a2 a3 a4 a5 a6) (revenantlaw03_ConfOps.f (k + 1) a0 a1 a2 a3 a4 a5 a6) := by
  intro a0 a1 a2 a3 a4 a5 a6 k
  obtain ⟨ih0, ih1⟩ := revenantlaw03_ConfOps.mono_l k
  unfold revenantlaw03_ConfOps.f
  repeat' first
      | (with_reducible exact ih0 _ _ _ _ _ _ _ _ _ _ _ _ _ _ _ _ _ _ _ _)
      | (with_reducible exact ih1 _ _ _ _ _ _ _ _ _ _ _)
      | (with_reducible exact conf_Check.mono _ _ _ _ _ _)
      | (with_reducible exact conf_IsOp.mono _ _ _ _ _ _ _ _ _ _)
      | (with_reducible exact revenantlaw03_awake.mono _)
      | (with_reducible exact LeO.refl _)
      | (with_reducible exact LeO.none _)
      | (with_reducible refine LeO.ite ?_ ?_)
      | (with_reducible refine LeO.bind ?_ (fun _ => ?_))
      | exact ih0 _ _ _ _ _ _ _ _ _ _ _ _ _ _ _ _ _ _ _ _
      | exact ih1 _ _ _ _ _ _ _ _ _ _ _
      | exact conf_Check.mono _ _ _ _ _ _
      | exact conf_IsOp.mono _ _ _ _ _ _ _ _ _ _
      | exact revenantlaw03_awake.mono _
      | exact LeO.none _
      | refine LeO.ite ?_ ?_
      | refine LeO.bind ?_ (fun _ => ?_)
theorem revenantlaw03_ConfOps.j0_no {k : Nat} {y1 : Int} {y2 : Int} {y3 : Int} {y4 : Int} {y5 : Int} {y6 : Int} {y7 : Int} {y8 : Int} {y9 : Int} {y10 : Int} {y11 : Int} {y12 : Int} {y13 : Int} {y14 : Int} {y15 : Int} {y16 : Int} {y17 : Int} {y18 : Int} {y19 : Int} {r : Bool} (h : revenantlaw03_ConfOps.j0 k true y1 y2 y3 y4 y5 y6 y7 y8 y9 y10 y11 y12 y13 y14 y15 y16 y17 y18 y19 = some r) : r = false := by
  cases k with
  | zero => exact absurd h (by simp [revenantlaw03_ConfOps.j0])
  | succ k => exact (Option.some.inj (by simpa only [revenantlaw03_ConfOps.j0, if_true] using h)).symm
theorem revenantlaw03_ConfOps.j1_no {k : Nat} {y0 : Int} {y2 : Int} {y3 : Int} {y4 : Int} {y5 : Int} {y6 : Int} {y7 : Int} {y8 : Int} {y9 : Int} {y10 : Int} {r : Bool} (h : revenantlaw03_ConfOps.j1 k y0 true y2 y3 y4 y5 y6 y7 y8 y9 y10 = some r) : r = false := by
  cases k with
  | zero => exact absurd h (by simp [revenantlaw03_ConfOps.j1])
  | succ k => exact (Option.some.inj (by simpa only [revenantlaw03_ConfOps.j1, if_true] using h)).symm
set_option maxHeartbeats 8000000 in
set_option maxRecDepth 100000 in
theorem revenantlaw03_ConfOps.callsT (k : Nat) (a0 : Int) (a1 : Int) (a2 : Int) (a3_0 : Int) (a3_1 : Int) (a3_2 : Int) (a3_3 : Int) (r : Bool) (w : World) (hr0 : r = true) (h : revenantlaw03_ConfOps.f k a0 a1 a2 a3_0 a3_1 a3_2 a3_3 = some r) :
    Calls Try.prog 5 #[.int .i64 a0, .int .i64 a1, .int .i64 a2, .agg #[.int .i64 a3_0, .int .u64 a3_1, .int .u64 a3_2, .int .i64 a3_3]] w fun e w' => e = .returned (.bool r) ∧ Below w.heap.size w w' := by
  have hu32 := Try.underlying32
  have hu25 := Try.underlying25
  have HB := Aside0.mk (Below.refl w.heap.size w)
  have HR := Aside0.mk hr0
  clear hr0
  have H : ((revenantlaw03_awake.f k).bind fun t171 => (if t171 = true then ((revenantlaw03_list.f (wrap64 (1 + (wrap64 (Int.tmod (IntKind.u64.wrap (a0)) 8388607))))).bind fun bt172 => ((conf_Check.f k bt172.1 bt172.2.1 bt172.2.2.1 bt172.2.2.2.1 bt172.2.2.2.2).bind fun t180 => (if t180 = 0 then ((conf_Check.f k 2 (wrap64 (1 + (wrap64 (Int.tmod (IntKind.u64.wrap (a0)) 8388607)))) (wrap64 (1 + (wrap64 (Int.tmod (IntKind.u64.wrap (a1)) 64)))) 1 2).bind fun t181 => (if t181 = 0 then ((conf_Check.f k 3 (wrap64 (1 + (wrap64 (Int.tmod (IntKind.u64.wrap (a0)) 8388607)))) 0 (wrap64 (1 + (wrap64 (Int.tmod (IntKind.u64.wrap (a2)) 16)))) 2).bind fun t182 => (revenantlaw03_ConfOps.j0 k (t182 != 0) a3_0 a3_1 a3_2 a3_3 bt172.1 bt172.2.1 bt172.2.2.1 bt172.2.2.2.1 bt172.2.2.2.2 2 (wrap64 (1 + (wrap64 (Int.tmod (IntKind.u64.wrap (a0)) 8388607)))) (wrap64 (1 + (wrap64 (Int.tmod (IntKind.u64.wrap (a1)) 64)))) 1 2 3 (wrap64 (1 + (wrap64 (Int.tmod (IntKind.u64.wrap (a0)) 8388607)))) 0 (wrap64 (1 + (wrap64 (Int.tmod (IntKind.u64.wrap (a2)) 16)))) 2)) else (revenantlaw03_ConfOps.j0 k true a3_0 a3_1 a3_2 a3_3 bt172.1 bt172.2.1 bt172.2.2.1 bt172.2.2.2.1 bt172.2.2.2.2 2 (wrap64 (1 + (wrap64 (Int.tmod (IntKind.u64.wrap (a0)) 8388607)))) (wrap64 (1 + (wrap64 (Int.tmod (IntKind.u64.wrap (a1)) 64)))) 1 2 3 (wrap64 (1 + (wrap64 (Int.tmod (IntKind.u64.wrap (a0)) 8388607)))) 0 (wrap64 (1 + (wrap64 (Int.tmod (IntKind.u64.wrap (a2)) 16)))) 2))) else (revenantlaw03_ConfOps.j0 k true a3_0 a3_1 a3_2 a3_3 bt172.1 bt172.2.1 bt172.2.2.1 bt172.2.2.2.1 bt172.2.2.2.2 2 (wrap64 (1 + (wrap64 (Int.tmod (IntKind.u64.wrap (a0)) 8388607)))) (wrap64 (1 + (wrap64 (Int.tmod (IntKind.u64.wrap (a1)) 64)))) 1 2 3 (wrap64 (1 + (wrap64 (Int.tmod (IntKind.u64.wrap (a0)) 8388607)))) 0 (wrap64 (1 + (wrap64 (Int.tmod (IntKind.u64.wrap (a2)) 16)))) 2)))) else (some false))) = some r := h
  clear h
  replace H := Option.bind_eq_some_iff.mp H
  obtain ⟨t171, A50, H⟩ := H
  replace H : (if t171 = true then ((revenantlaw03_list.f (wrap64 (1 + (wrap64 (Int.tmod (IntKind.u64.wrap (a0)) 8388607))))).bind fun bt172 => ((conf_Check.f k bt172.1 bt172.2.1 bt172.2.2.1 bt172.2.2.2.1 bt172.2.2.2.2).bind fun t180 => (if t180 = 0 then ((conf_Check.f k 2 (wrap64 (1 + (wrap64 (Int.tmod (IntKind.u64.wrap (a0)) 8388607)))) (wrap64 (1 + (wrap64 (Int.tmod (IntKind.u64.wrap (a1)) 64)))) 1 2).bind fun t181 => (if t181 = 0 then ((conf_Check.f k 3 (wrap64 (1 + (wrap64 (Int.tmod (IntKind.u64.wrap (a0)) 8388607)))) 0 (wrap64 (1 + (wrap64 (Int.tmod (IntKind.u64.wrap (a2)) 16)))) 2).bind fun t182 => (revenantlaw03_ConfOps.j0 k (t182 != 0) a3_0 a3_1 a3_2 a3_3 bt172.1 bt172.2.1 bt172.2.2.1 bt172.2.2.2.1 bt172.2.2.2.2 2 (wrap64 (1 + (wrap64 (Int.tmod (IntKind.u64.wrap (a0)) 8388607)))) (wrap64 (1 + (wrap64 (Int.tmod (IntKind.u64.wrap (a1)) 64)))) 1 2 3 (wrap64 (1 + (wrap64 (Int.tmod (IntKind.u64.wrap (a0)) 8388607)))) 0 (wrap64 (1 + (wrap64 (Int.tmod (IntKind.u64.wrap (a2)) 16)))) 2)) else (revenantlaw03_ConfOps.j0 k true a3_0 a3_1 a3_2 a3_3 bt172.1 bt172.2.1 bt172.2.2.1 bt172.2.2.2.1 bt172.2.2.2.2 2 (wrap64 (1 + (wrap64 (Int.tmod (IntKind.u64.wrap (a0)) 8388607)))) (wrap64 (1 + (wrap64 (Int.tmod (IntKind.u64.wrap (a1)) 64)))) 1 2 3 (wrap64 (1 + (wrap64 (Int.tmod (IntKind.u64.wrap (a0)) 8388607)))) 0 (wrap64 (1 + (wrap64 (Int.tmod (IntKind.u64.wrap (a2)) 16)))) 2))) else (revenantlaw03_ConfOps.j0 k true a3_0 a3_1 a3_2 a3_3 bt172.1 bt172.2.1 bt172.2.2.1 bt172.2.2.2.1 bt172.2.2.2.2 2 (wrap64 (1 + (wrap64 (Int.tmod (IntKind.u64.wrap (a0)) 8388607)))) (wrap64 (1 + (wrap64 (Int.tmod (IntKind.u64.wrap (a1)) 64)))) 1 2 3 (wrap64 (1 + (wrap64 (Int.tmod (IntKind.u64.wrap (a0)) 8388607)))) 0 (wrap64 (1 + (wrap64 (Int.tmod (IntKind.u64.wrap (a2)) 16)))) 2)))) else (some false)) = some r := H
  have A5 := Aside0.mk A50
  clear A50
  by_cases c6 : t171 = true
  · subst c6
    have H1 : ((revenantlaw03_list.f (wrap64 (1 + (wrap64 (Int.tmod (IntKind.u64.wrap (a0)) 8388607))))).bind fun bt172 => ((conf_Check.f k bt172.1 bt172.2.1 bt172.2.2.1 bt172.2.2.2.1 bt172.2.2.2.2).bind fun t180 => (if t180 = 0 then ((conf_Check.f k 2 (wrap64 (1 + (wrap64 (Int.tmod (IntKind.u64.wrap (a0)) 8388607)))) (wrap64 (1 + (wrap64 (Int.tmod (IntKind.u64.wrap (a1)) 64)))) 1 2).bind fun t181 => (if t181 = 0 then ((conf_Check.f k 3 (wrap64 (1 + (wrap64 (Int.tmod (IntKind.u64.wrap (a0)) 8388607)))) 0 (wrap64 (1 + (wrap64 (Int.tmod (IntKind.u64.wrap (a2)) 16)))) 2).bind fun t182 => (revenantlaw03_ConfOps.j0 k (t182 != 0) a3_0 a3_1 a3_2 a3_3 bt172.1 bt172.2.1 bt172.2.2.1 bt172.2.2.2.1 bt172.2.2.2.2 2 (wrap64 (1 + (wrap64 (Int.tmod (IntKind.u64.wrap (a0)) 8388607)))) (wrap64 (1 + (wrap64 (Int.tmod (IntKind.u64.wrap (a1)) 64)))) 1 2 3 (wrap64 (1 + (wrap64 (Int.tmod (IntKind.u64.wrap (a0)) 8388607)))) 0 (wrap64 (1 + (wrap64 (Int.tmod (IntKind.u64.wrap (a2)) 16)))) 2)) else (revenantlaw03_ConfOps.j0 k true a3_0 a3_1 a3_2 a3_3 bt172.1 bt172.2.1 bt172.2.2.1 bt172.2.2.2.1 bt172.2.2.2.2 2 (wrap64 (1 + (wrap64 (Int.tmod (IntKind.u64.wrap (a0)) 8388607)))) (wrap64 (1 + (wrap64 (Int.tmod (IntKind.u64.wrap (a1)) 64)))) 1 2 3 (wrap64 (1 + (wrap64 (Int.tmod (IntKind.u64.wrap (a0)) 8388607)))) 0 (wrap64 (1 + (wrap64 (Int.tmod (IntKind.u64.wrap (a2)) 16)))) 2))) else (revenantlaw03_ConfOps.j0 k true a3_0 a3_1 a3_2 a3_3 bt172.1 bt172.2.1 bt172.2.2.1 bt172.2.2.2.1 bt172.2.2.2.2 2 (wrap64 (1 + (wrap64 (Int.tmod (IntKind.u64.wrap (a0)) 8388607)))) (wrap64 (1 + (wrap64 (Int.tmod (IntKind.u64.wrap (a1)) 64)))) 1 2 3 (wrap64 (1 + (wrap64 (Int.tmod (IntKind.u64.wrap (a0)) 8388607)))) 0 (wrap64 (1 + (wrap64 (Int.tmod (IntKind.u64.wrap (a2)) 16)))) 2)))) = some r := by rw [if_pos rfl] at H; exact H
    clear H
    have H := H1
    clear H1
    replace H := Option.bind_eq_some_iff.mp H
    obtain ⟨⟨t172, t173, t174, t175, t176⟩, A70, H⟩ := H
    replace H : ((conf_Check.f k t172 t173 t174 t175 t176).bind fun t180 => (if t180 = 0 then ((conf_Check.f k 2 (wrap64 (1 + (wrap64 (Int.tmod (IntKind.u64.wrap (a0)) 8388607)))) (wrap64 (1 + (wrap64 (Int.tmod (IntKind.u64.wrap (a1)) 64)))) 1 2).bind fun t181 => (if t181 = 0 then ((conf_Check.f k 3 (wrap64 (1 + (wrap64 (Int.tmod (IntKind.u64.wrap (a0)) 8388607)))) 0 (wrap64 (1 + (wrap64 (Int.tmod (IntKind.u64.wrap (a2)) 16)))) 2).bind fun t182 => (revenantlaw03_ConfOps.j0 k (t182 != 0) a3_0 a3_1 a3_2 a3_3 t172 t173 t174 t175 t176 2 (wrap64 (1 + (wrap64 (Int.tmod (IntKind.u64.wrap (a0)) 8388607)))) (wrap64 (1 + (wrap64 (Int.tmod (IntKind.u64.wrap (a1)) 64)))) 1 2 3 (wrap64 (1 + (wrap64 (Int.tmod (IntKind.u64.wrap (a0)) 8388607)))) 0 (wrap64 (1 + (wrap64 (Int.tmod (IntKind.u64.wrap (a2)) 16)))) 2)) else (revenantlaw03_ConfOps.j0 k true a3_0 a3_1 a3_2 a3_3 t172 t173 t174 t175 t176 2 (wrap64 (1 + (wrap64 (Int.tmod (IntKind.u64.wrap (a0)) 8388607)))) (wrap64 (1 + (wrap64 (Int.tmod (IntKind.u64.wrap (a1)) 64)))) 1 2 3 (wrap64 (1 + (wrap64 (Int.tmod (IntKind.u64.wrap (a0)) 8388607)))) 0 (wrap64 (1 + (wrap64 (Int.tmod (IntKind.u64.wrap (a2)) 16)))) 2))) else (revenantlaw03_ConfOps.j0 k true a3_0 a3_1 a3_2 a3_3 t172 t173 t174 t175 t176 2 (wrap64 (1 + (wrap64 (Int.tmod (IntKind.u64.wrap (a0)) 8388607)))) (wrap64 (1 + (wrap64 (Int.tmod (IntKind.u64.wrap (a1)) 64)))) 1 2 3 (wrap64 (1 + (wrap64 (Int.tmod (IntKind.u64.wrap (a0)) 8388607)))) 0 (wrap64 (1 + (wrap64 (Int.tmod (IntKind.u64.wrap (a2)) 16)))) 2))) = some r := H
    have A7 := Aside0.mk A70
    clear A70
    have HC8 := Aside0.mk H
    clear H
    go_enter Try.func5, Try.ntmps5
    go_upto_region 7 with (first | ((with_reducible refine gate_dst (N := 7) rfl ?_); refine box_event ?hg (N := 7) ?hd (cs := #[.int .i64 a3_0, .int .u64 a3_1, .int .u64 a3_2, .int .i64 a3_3]) (t := 32) ?hr ?_; (case hd => rfl); (case hg => rfl); (case hr => first | (go_simp; done) | (go_simp; rfl)); intro gb170 hg w9 hbox hb; have n0_ := Aside0.mk (below_step (by repeat (first | (with_reducible first | exact HB.out | apply below_alloc | apply pw_below_drewN | apply below_drew1) | exact HB.out)) hb); have n1_ := Aside0.mk (hbox); have n2_ := Aside0.mk ((by rw [hg]; exact (below_size (by repeat (first | (with_reducible first | exact HB.out | apply below_alloc | apply pw_below_drewN | apply below_drew1) | exact HB.out))) : w.heap.size ≤ gb170)); have n3_ := Aside0.mk ((by rw [hg]; exact (below_size (by repeat (first | (with_reducible first | exact HB.out | apply below_alloc | apply pw_below_drewN | apply below_drew1) | exact HB.out))) : w.heap.size ≤ gb170)); clear HB; have HB := n0_; have BK170 := n1_; have GW170 := n2_; have GE170 := n3_; clear n0_ n1_ n2_ n3_; clear hb hbox hg) | ((with_reducible refine gate_callee (f := 6) rfl ?_); refine goesL_ (some 16) rfl rfl Try.func6 (by kernel_rfl) rfl #[] rfl (by (try simp only [List.map_toArray, List.map_cons, List.map_nil]); first | done | rfl | (simp only [List.length_drop, List.length_take]; rfl)) ?_; (with_reducible refine (revenantlaw03_awake.calls k  true _ A5.out).mono ?_); rintro e w10 ⟨rfl, hb⟩; refine ⟨_, rfl, ?_⟩; have n0_ := Aside0.mk (blk_below (g := gb170) (o := .cells #[.int .i64 a3_0, .int .u64 a3_1, .int .u64 a3_2, .int .i64 a3_3] 32 (0, 0)) (by (with_reducible repeat (first | refine blk_drewN ?_ _ | refine blk_drew ?_ | refine blk_alloc ?_ _)); exact BK170.out) hb); have n1_ := Aside0.mk (below_step (by repeat (first | (with_reducible first | exact HB.out | apply below_alloc | apply pw_below_drewN | apply below_drew1 | refine below_set ?_ GE170.out) | exact HB.out)) hb); clear BK170; clear HB; have BK170 := n0_; have HB := n1_; clear n0_ n1_; (try clear hb); (try clear hb2); (try clear hk); (try clear hi)) | ((with_reducible refine gate_callee (f := 16) rfl ?_); refine goesL_ (some 24) rfl rfl Try.func16 (by kernel_rfl) rfl #[.int .i64 (wrap64 (1 + (wrap64 (Int.tmod (IntKind.u64.wrap (a0)) 8388607))))] rfl (by (try simp only [List.map_toArray, List.map_cons, List.map_nil]); first | done | rfl | (simp only [List.length_drop, List.length_take]; rfl)) ?_; (with_reducible refine (revenantlaw03_list.calls (wrap64 (1 + (wrap64 (Int.tmod (IntKind.u64.wrap (a0)) 8388607)))) t172 t173 t174 t175 t176 _ A7.out).mono ?_); rintro e w11 ⟨rfl, hb⟩; refine ⟨_, rfl, ?_⟩; have n0_ := Aside0.mk (blk_below (g := gb170) (o := .cells #[.int .i64 a3_0, .int .u64 a3_1, .int .u64 a3_2, .int .i64 a3_3] 32 (0, 0)) (by (with_reducible repeat (first | refine blk_drewN ?_ _ | refine blk_drew ?_ | refine blk_alloc ?_ _)); exact BK170.out) hb); have n1_ := Aside0.mk (below_step (by repeat (first | (with_reducible first | exact HB.out | apply below_alloc | apply pw_below_drewN | apply below_drew1 | refine below_set ?_ GE170.out) | exact HB.out)) hb); clear BK170; clear HB; have BK170 := n0_; have HB := n1_; clear n0_ n1_; (try clear hb); (try clear hb2); (try clear hk); (try clear hi)) | ((with_reducible refine gate_dst (N := 10) rfl ?_); refine box_event ?hg (N := 10) ?hd (cs := #[.int .i64 0, .int .i64 0, .int .i64 0, .int .i64 0, .int .i64 0]) (t := 25) ?hr ?_; (case hd => rfl); (case hg => rfl); (case hr => first | (go_simp; done) | (go_simp; rfl)); intro gb177 hg w12 hbox hb; have n0_ := Aside0.mk (blk_below (g := gb170) (o := .cells #[.int .i64 a3_0, .int .u64 a3_1, .int .u64 a3_2, .int .i64 a3_3] 32 (0, 0)) (by (with_reducible repeat (first | refine blk_drewN ?_ _ | refine blk_drew ?_ | refine blk_alloc ?_ _)); exact BK170.out) hb); have n1_ := Aside0.mk (below_step (by repeat (first | (with_reducible first | exact HB.out | apply below_alloc | apply pw_below_drewN | apply below_drew1 | refine below_set ?_ GE170.out) | exact HB.out)) hb); have n2_ := Aside0.mk (hbox); have n3_ := Aside0.mk ((by rw [hg]; exact (below_size (by repeat (first | (with_reducible first | exact HB.out | apply below_alloc | apply pw_below_drewN | apply below_drew1 | refine below_set ?_ GE170.out) | exact HB.out))) : w.heap.size ≤ gb177)); have n4_ := Aside0.mk ((by rw [hg]; exact (below_size (by repeat (first | (with_reducible first | exact HB.out | apply below_alloc | apply pw_below_drewN | apply below_drew1 | refine below_set ?_ GE170.out) | exact HB.out))) : w.heap.size ≤ gb177)); have n5_ := Aside0.mk ((by rw [hg]; exact Nat.ne_of_lt (blk_lt (g := gb170) (o := .cells #[.int .i64 a3_0, .int .u64 a3_1, .int .u64 a3_2, .int .i64 a3_3] 32 (0, 0)) (by (with_reducible repeat (first | refine blk_drewN ?_ _ | refine blk_drew ?_ | refine blk_alloc ?_ _)); exact BK170.out)) : gb170 ≠ gb177)); have n6_ := Aside0.mk ((by rw [hg]; exact Nat.ne_of_gt (blk_lt (g := gb170) (o := .cells #[.int .i64 a3_0, .int .u64 a3_1, .int .u64 a3_2, .int .i64 a3_3] 32 (0, 0)) (by (with_reducible repeat (first | refine blk_drewN ?_ _ | refine blk_drew ?_ | refine blk_alloc ?_ _)); exact BK170.out)) : gb177 ≠ gb170)); clear BK170; clear HB; have BK170 := n0_; have HB := n1_; have BK177 := n2_; have GW177 := n3_; have GE177 := n4_; have NB170_177 := n5_; have NB177_170 := n6_; clear n0_ n1_ n2_ n3_ n4_ n5_ n6_; clear hb hbox hg; have hnb13 := NB177_170.out; have hnc13 := NB170_177.out; have hcz14_0 : w12.cell? ⟨gb177, 0, none⟩ = some (.int .i64 0) := (blk_cell BK177.out 0).trans rfl; have hcz14_1 : w12.cell? ⟨gb177, 1, none⟩ = some (.int .i64 0) := (blk_cell BK177.out 1).trans rfl; have hcz14_2 : w12.cell? ⟨gb177, 2, none⟩ = some (.int .i64 0) := (blk_cell BK177.out 2).trans rfl; have hcz14_3 : w12.cell? ⟨gb177, 3, none⟩ = some (.int .i64 0) := (blk_cell BK177.out 3).trans rfl; have hcz14_4 : w12.cell? ⟨gb177, 4, none⟩ = some (.int .i64 0) := (blk_cell BK177.out 4).trans rfl; have hfz14_0 := blk_frozen BK177.out 0; have hfz14_1 := blk_frozen BK177.out 1; have hfz14_2 := blk_frozen BK177.out 2; have hfz14_3 := blk_frozen BK177.out 3; have hfz14_4 := blk_frozen BK177.out 4) | ((with_reducible refine gate_dst (N := 11) rfl ?_); refine box_event ?hg (N := 11) ?hd (cs := #[.int .i64 0, .int .i64 0, .int .i64 0, .int .i64 0, .int .i64 0]) (t := 25) ?hr ?_; (case hd => rfl); (case hg => rfl); (case hr => first | (go_simp; done) | (go_simp; rfl)); intro gb178 hg w15 hbox hb; have n0_ := Aside0.mk (blk_below (g := gb170) (o := .cells #[.int .i64 a3_0, .int .u64 a3_1, .int .u64 a3_2, .int .i64 a3_3] 32 (0, 0)) (by (with_reducible repeat (first | refine blk_drewN ?_ _ | refine blk_drew ?_ | refine blk_alloc ?_ _)); refine blk_far ?_ NB170_177.out _; (with_reducible repeat (first | refine blk_drewN ?_ _ | refine blk_drew ?_ | refine blk_alloc ?_ _)); refine blk_far ?_ NB170_177.out _; (with_reducible repeat (first | refine blk_drewN ?_ _ | refine blk_drew ?_ | refine blk_alloc ?_ _)); refine blk_far ?_ NB170_177.out _; (with_reducible repeat (first | refine blk_drewN ?_ _ | refine blk_drew ?_ | refine blk_alloc ?_ _)); refine blk_far ?_ NB170_177.out _; (with_reducible repeat (first | refine blk_drewN ?_ _ | refine blk_drew ?_ | refine blk_alloc ?_ _)); refine blk_far ?_ NB170_177.out _; (with_reducible repeat (first | refine blk_drewN ?_ _ | refine blk_drew ?_ | refine blk_alloc ?_ _)); exact BK170.out) hb); have n1_ := Aside0.mk (blk_below (g := gb177) (o := .cells #[.int .i64 t172, .int .i64 t173, .int .i64 t174, .int .i64 t175, .int .i64 t176] 25 (0, 0)) (by (with_reducible repeat (first | refine blk_drewN ?_ _ | refine blk_drew ?_ | refine blk_alloc ?_ _)); refine blk_put (cs := #[.int .i64 t172, .int .i64 t173, .int .i64 t174, .int .i64 t175, .int .i64 0]) ?_ 4 _ rfl; (with_reducible repeat (first | refine blk_drewN ?_ _ | refine blk_drew ?_ | refine blk_alloc ?_ _)); refine blk_put (cs := #[.int .i64 t172, .int .i64 t173, .int .i64 t174, .int .i64 0, .int .i64 0]) ?_ 3 _ rfl; (with_reducible repeat (first | refine blk_drewN ?_ _ | refine blk_drew ?_ | refine blk_alloc ?_ _)); refine blk_put (cs := #[.int .i64 t172, .int .i64 t173, .int .i64 0, .int .i64 0, .int .i64 0]) ?_ 2 _ rfl; (with_reducible repeat (first | refine blk_drewN ?_ _ | refine blk_drew ?_ | refine blk_alloc ?_ _)); refine blk_put (cs := #[.int .i64 t172, .int .i64 0, .int .i64 0, .int .i64 0, .int .i64 0]) ?_ 1 _ rfl; (with_reducible repeat (first | refine blk_drewN ?_ _ | refine blk_drew ?_ | refine blk_alloc ?_ _)); refine blk_put (cs := #[.int .i64 0, .int .i64 0, .int .i64 0, .int .i64 0, .int .i64 0]) ?_ 0 _ rfl; (with_reducible repeat (first | refine blk_drewN ?_ _ | refine blk_drew ?_ | refine blk_alloc ?_ _)); exact BK177.out) hb); have n2_ := Aside0.mk (below_step (by repeat (first | (with_reducible first | exact HB.out | apply below_alloc | apply pw_below_drewN | apply below_drew1 | refine below_set ?_ GE170.out | refine below_set ?_ GE177.out) | exact HB.out)) hb); have n3_ := Aside0.mk (hbox); have n4_ := Aside0.mk ((by rw [hg]; exact (below_size (by repeat (first | (with_reducible first | exact HB.out | apply below_alloc | apply pw_below_drewN | apply below_drew1 | refine below_set ?_ GE170.out | refine below_set ?_ GE177.out) | exact HB.out))) : w.heap.size ≤ gb178)); have n5_ := Aside0.mk ((by rw [hg]; exact (below_size (by repeat (first | (with_reducible first | exact HB.out | apply below_alloc | apply pw_below_drewN | apply below_drew1 | refine below_set ?_ GE170.out | refine below_set ?_ GE177.out) | exact HB.out))) : w.heap.size ≤ gb178)); have n6_ := Aside0.mk ((by rw [hg]; exact Nat.ne_of_lt (blk_lt (g := gb170) (o := .cells #[.int .i64 a3_0, .int .u64 a3_1, .int .u64 a3_2, .int .i64 a3_3] 32 (0, 0)) (by (with_reducible repeat (first | refine blk_drewN ?_ _ | refine blk_drew ?_ | refine blk_alloc ?_ _)); refine blk_far ?_ NB170_177.out _; (with_reducible repeat (first | refine blk_drewN ?_ _ | refine blk_drew ?_ | refine blk_alloc ?_ _)); refine blk_far ?_ NB170_177.out _; (with_reducible repeat (first | refine blk_drewN ?_ _ | refine blk_drew ?_ | refine blk_alloc ?_ _)); refine blk_far ?_ NB170_177.out _; (with_reducible repeat (first | refine blk_drewN ?_ _ | refine blk_drew ?_ | refine blk_alloc ?_ _)); refine blk_far ?_ NB170_177.out _; (with_reducible repeat (first | refine blk_drewN ?_ _ | refine blk_drew ?_ | refine blk_alloc ?_ _)); refine blk_far ?_ NB170_177.out _; (with_reducible repeat (first | refine blk_drewN ?_ _ | refine blk_drew ?_ | refine blk_alloc ?_ _)); exact BK170.out)) : gb170 ≠ gb178)); have n7_ := Aside0.mk ((by rw [hg]; exact Nat.ne_of_gt (blk_lt (g := gb170) (o := .cells #[.int .i64 a3_0, .int .u64 a3_1, .int .u64 a3_2, .int .i64 a3_3] 32 (0, 0)) (by (with_reducible repeat (first | refine blk_drewN ?_ _ | refine blk_drew ?_ | refine blk_alloc ?_ _)); refine blk_far ?_ NB170_177.out _; (with_reducible repeat (first | refine blk_drewN ?_ _ | refine blk_drew ?_ | refine blk_alloc ?_ _)); refine blk_far ?_ NB170_177.out _; (with_reducible repeat (first | refine blk_drewN ?_ _ | refine blk_drew ?_ | refine blk_alloc ?_ _)); refine blk_far ?_ NB170_177.out _; (with_reducible repeat (first | refine blk_drewN ?_ _ | refine blk_drew ?_ | refine blk_alloc ?_ _)); refine blk_far ?_ NB170_177.out _; (with_reducible repeat (first | refine blk_drewN ?_ _ | refine blk_drew ?_ | refine blk_alloc ?_ _)); refine blk_far ?_ NB170_177.out _; (with_reducible repeat (first | refine blk_drewN ?_ _ | refine blk_drew ?_ | refine blk_alloc ?_ _)); exact BK170.out)) : gb178 ≠ gb170)); have n8_ := Aside0.mk ((by rw [hg]; exact Nat.ne_of_lt (blk_lt (g := gb177) (o := .cells #[.int .i64 t172, .int .i64 t173, .int .i64 t174, .int .i64 t175, .int .i64 t176] 25 (0, 0)) (by (with_reducible repeat (first | refine blk_drewN ?_ _ | refine blk_drew ?_ | refine blk_alloc ?_ _)); refine blk_put (cs := #[.int .i64 t172, .int .i64 t173, .int .i64 t174, .int .i64 t175, .int .i64 0]) ?_ 4 _ rfl; (with_reducible repeat (first | refine blk_drewN ?_ _ | refine blk_drew ?_ | refine blk_alloc ?_ _)); refine blk_put (cs := #[.int .i64 t172, .int .i64 t173, .int .i64 t174, .int .i64 0, .int .i64 0]) ?_ 3 _ rfl; (with_reducible repeat (first | refine blk_drewN ?_ _ | refine blk_drew ?_ | refine blk_alloc ?_ _)); refine blk_put (cs := #[.int .i64 t172, .int .i64 t173, .int .i64 0, .int .i64 0, .int .i64 0]) ?_ 2 _ rfl; (with_reducible repeat (first | refine blk_drewN ?_ _ | refine blk_drew ?_ | refine blk_alloc ?_ _)); refine blk_put (cs := #[.int .i64 t172, .int .i64 0, .int .i64 0, .int .i64 0, .int .i64 0]) ?_ 1 _ rfl; (with_reducible repeat (first | refine blk_drewN ?_ _ | refine blk_drew ?_ | refine blk_alloc ?_ _)); refine blk_put (cs := #[.int .i64 0, .int .i64 0, .int .i64 0, .int .i64 0, .int .i64 0]) ?_ 0 _ rfl; (with_reducible repeat (first | refine blk_drewN ?_ _ | refine blk_drew ?_ | refine blk_alloc ?_ _)); exact BK177.out)) : gb177 ≠ gb178)); have n9_ := Aside0.mk ((by rw [hg]; exact Nat.ne_of_gt (blk_lt (g := gb177) (o := .cells #[.int .i64 t172, .int .i64 t173, .int .i64 t174, .int .i64 t175, .int .i64 t176] 25 (0, 0)) (by (with_reducible repeat (first | refine blk_drewN ?_ _ | refine blk_drew ?_ | refine blk_alloc ?_ _)); refine blk_put (cs := #[.int .i64 t172, .int .i64 t173, .int .i64 t174, .int .i64 t175, .int .i64 0]) ?_ 4 _ rfl; (with_reducible repeat (first | refine blk_drewN ?_ _ | refine blk_drew ?_ | refine blk_alloc ?_ _)); refine blk_put (cs := #[.int .i64 t172, .int .i64 t173, .int .i64 t174, .int .i64 0, .int .i64 0]) ?_ 3 _ rfl; (with_reducible repeat (first | refine blk_drewN ?_ _ | refine blk_drew ?_ | refine blk_alloc ?_ _)); refine blk_put (cs := #[.int .i64 t172, .int .i64 t173, .int .i64 0, .int .i64 0, .int .i64 0]) ?_ 2 _ rfl; (with_reducible repeat (first | refine blk_drewN ?_ _ | refine blk_drew ?_ | refine blk_alloc ?_ _)); refine blk_put (cs := #[.int .i64 t172, .int .i64 0, .int .i64 0, .int .i64 0, .int .i64 0]) ?_ 1 _ rfl; (with_reducible repeat (first | refine blk_drewN ?_ _ | refine blk_drew ?_ | refine blk_alloc ?_ _)); refine blk_put (cs := #[.int .i64 0, .int .i64 0, .int .i64 0, .int .i64 0, .int .i64 0]) ?_ 0 _ rfl; (with_reducible repeat (first | refine blk_drewN ?_ _ | refine blk_drew ?_ | refine blk_alloc ?_ _)); exact BK177.out)) : gb178 ≠ gb177)); clear BK170; clear BK177; clear HB; have BK170 := n0_; have BK177 := n1_; have HB := n2_; have BK178 := n3_; have GW178 := n4_; have GE178 := n5_; have NB170_178 := n6_; have NB178_170 := n7_; have NB177_178 := n8_; have NB178_177 := n9_; clear n0_ n1_ n2_ n3_ n4_ n5_ n6_ n7_ n8_ n9_; clear hb hbox hg; have hnb16 := NB178_170.out; have hnc16 := NB170_178.out; have hnb17 := NB178_177.out; have hnc17 := NB177_178.out; have hcz18_0 : w15.cell? ⟨gb178, 0, none⟩ = some (.int .i64 0) := (blk_cell BK178.out 0).trans rfl; have hcz18_1 : w15.cell? ⟨gb178, 1, none⟩ = some (.int .i64 0) := (blk_cell BK178.out 1).trans rfl; have hcz18_2 : w15.cell? ⟨gb178, 2, none⟩ = some (.int .i64 0) := (blk_cell BK178.out 2).trans rfl; have hcz18_3 : w15.cell? ⟨gb178, 3, none⟩ = some (.int .i64 0) := (blk_cell BK178.out 3).trans rfl; have hcz18_4 : w15.cell? ⟨gb178, 4, none⟩ = some (.int .i64 0) := (blk_cell BK178.out 4).trans rfl; have hfz18_0 := blk_frozen BK178.out 0; have hfz18_1 := blk_frozen BK178.out 1; have hfz18_2 := blk_frozen BK178.out 2; have hfz18_3 := blk_frozen BK178.out 3; have hfz18_4 := blk_frozen BK178.out 4) | ((with_reducible refine gate_dst (N := 12) rfl ?_); refine box_event ?hg (N := 12) ?hd (cs := #[.int .i64 0, .int .i64 0, .int .i64 0, .int .i64 0, .int .i64 0]) (t := 25) ?hr ?_; (case hd => rfl); (case hg => rfl); (case hr => first | (go_simp; done) | (go_simp; rfl)); intro gb179 hg w19 hbox hb; have n0_ := Aside0.mk (blk_below (g := gb170) (o := .cells #[.int .i64 a3_0, .int .u64 a3_1, .int .u64 a3_2, .int .i64 a3_3] 32 (0, 0)) (by (with_reducible repeat (first | refine blk_drewN ?_ _ | refine blk_drew ?_ | refine blk_alloc ?_ _)); refine blk_far ?_ NB170_178.out _; (with_reducible repeat (first | refine blk_drewN ?_ _ | refine blk_drew ?_ | refine blk_alloc ?_ _)); refine blk_far ?_ NB170_178.out _; (with_reducible repeat (first | refine blk_drewN ?_ _ | refine blk_drew ?_ | refine blk_alloc ?_ _)); refine blk_far ?_ NB170_178.out _; (with_reducible repeat (first | refine blk_drewN ?_ _ | refine blk_drew ?_ | refine blk_alloc ?_ _)); refine blk_far ?_ NB170_178.out _; (with_reducible repeat (first | refine blk_drewN ?_ _ | refine blk_drew ?_ | refine blk_alloc ?_ _)); refine blk_far ?_ NB170_178.out _; (with_reducible repeat (first | refine blk_drewN ?_ _ | refine blk_drew ?_ | refine blk_alloc ?_ _)); exact BK170.out) hb); have n1_ := Aside0.mk (blk_below (g := gb177) (o := .cells #[.int .i64 t172, .int .i64 t173, .int .i64 t174, .int .i64 t175, .int .i64 t176] 25 (0, 0)) (by (with_reducible repeat (first | refine blk_drewN ?_ _ | refine blk_drew ?_ | refine blk_alloc ?_ _)); refine blk_far ?_ NB177_178.out _; (with_reducible repeat (first | refine blk_drewN ?_ _ | refine blk_drew ?_ | refine blk_alloc ?_ _)); refine blk_far ?_ NB177_178.out _; (with_reducible repeat (first | refine blk_drewN ?_ _ | refine blk_drew ?_ | refine blk_alloc ?_ _)); refine blk_far ?_ NB177_178.out _; (with_reducible repeat (first | refine blk_drewN ?_ _ | refine blk_drew ?_ | refine blk_alloc ?_ _)); refine blk_far ?_ NB177_178.out _; (with_reducible repeat (first | refine blk_drewN ?_ _ | refine blk_drew ?_ | refine blk_alloc ?_ _)); refine blk_far ?_ NB177_178.out _; (with_reducible repeat (first | refine blk_drewN ?_ _ | refine blk_drew ?_ | refine blk_alloc ?_ _)); exact BK177.out) hb); have n2_ := Aside0.mk (blk_below (g := gb178) (o := .cells #[.int .i64 2, .int .i64 (wrap64 (1 + (wrap64 (Int.tmod (IntKind.u64.wrap (a0)) 8388607)))), .int .i64 (wrap64 (1 + (wrap64 (Int.tmod (IntKind.u64.wrap (a1)) 64)))), .int .i64 1, .int .i64 2] 25 (0, 0)) (by (with_reducible repeat (first | refine blk_drewN ?_ _ | refine blk_drew ?_ | refine blk_alloc ?_ _)); refine blk_put (cs := #[.int .i64 2, .int .i64 (wrap64 (1 + (wrap64 (Int.tmod (IntKind.u64.wrap (a0)) 8388607)))), .int .i64 (wrap64 (1 + (wrap64 (Int.tmod (IntKind.u64.wrap (a1)) 64)))), .int .i64 1, .int .i64 0]) ?_ 4 _ rfl; (with_reducible repeat (first | refine blk_drewN ?_ _ | refine blk_drew ?_ | refine blk_alloc ?_ _)); refine blk_put (cs := #[.int .i64 2, .int .i64 (wrap64 (1 + (wrap64 (Int.tmod (IntKind.u64.wrap (a0)) 8388607)))), .int .i64 (wrap64 (1 + (wrap64 (Int.tmod (IntKind.u64.wrap (a1)) 64)))), .int .i64 0, .int .i64 0]) ?_ 3 _ rfl; (with_reducible repeat (first | refine blk_drewN ?_ _ | refine blk_drew ?_ | refine blk_alloc ?_ _)); refine blk_put (cs := #[.int .i64 2, .int .i64 (wrap64 (1 + (wrap64 (Int.tmod (IntKind.u64.wrap (a0)) 8388607)))), .int .i64 0, .int .i64 0, .int .i64 0]) ?_ 2 _ rfl; (with_reducible repeat (first | refine blk_drewN ?_ _ | refine blk_drew ?_ | refine blk_alloc ?_ _)); refine blk_put (cs := #[.int .i64 2, .int .i64 0, .int .i64 0, .int .i64 0, .int .i64 0]) ?_ 1 _ rfl; (with_reducible repeat (first | refine blk_drewN ?_ _ | refine blk_drew ?_ | refine blk_alloc ?_ _)); refine blk_put (cs := #[.int .i64 0, .int .i64 0, .int .i64 0, .int .i64 0, .int .i64 0]) ?_ 0 _ rfl; (with_reducible repeat (first | refine blk_drewN ?_ _ | refine blk_drew ?_ | refine blk_alloc ?_ _)); exact BK178.out) hb); have n3_ := Aside0.mk (below_step (by repeat (first | (with_reducible first | exact HB.out | apply below_alloc | apply pw_below_drewN | apply below_drew1 | refine below_set ?_ GE170.out | refine below_set ?_ GE177.out | refine below_set ?_ GE178.out) | exact HB.out)) hb); have n4_ := Aside0.mk (hbox); have n5_ := Aside0.mk ((by rw [hg]; exact (below_size (by repeat (first | (with_reducible first | exact HB.out | apply below_alloc | apply pw_below_drewN | apply below_drew1 | refine below_set ?_ GE170.out | refine below_set ?_ GE177.out | refine below_set ?_ GE178.out) | exact HB.out))) : w.heap.size ≤ gb179)); have n6_ := Aside0.mk ((by rw [hg]; exact (below_size (by repeat (first | (with_reducible first | exact HB.out | apply below_alloc | apply pw_below_drewN | apply below_drew1 | refine below_set ?_ GE170.out | refine below_set ?_ GE177.out | refine below_set ?_ GE178.out) | exact HB.out))) : w.heap.size ≤ gb179)); have n7_ := Aside0.mk ((by rw [hg]; exact Nat.ne_of_lt (blk_lt (g := gb170) (o := .cells #[.int .i64 a3_0, .int .u64 a3_1, .int .u64 a3_2, .int .i64 a3_3] 32 (0, 0)) (by (with_reducible repeat (first | refine blk_drewN ?_ _ | refine blk_drew ?_ | refine blk_alloc ?_ _)); refine blk_far ?_ NB170_178.out _; (with_reducible repeat (first | refine blk_drewN ?_ _ | refine blk_drew ?_ | refine blk_alloc ?_ _)); refine blk_far ?_ NB170_178.out _; (with_reducible repeat (first | refine blk_drewN ?_ _ | refine blk_drew ?_ | refine blk_alloc ?_ _)); refine blk_far ?_ NB170_178.out _; (with_reducible repeat (first | refine blk_drewN ?_ _ | refine blk_drew ?_ | refine blk_alloc ?_ _)); refine blk_far ?_ NB170_178.out _; (with_reducible repeat (first | refine blk_drewN ?_ _ | refine blk_drew ?_ | refine blk_alloc ?_ _)); refine blk_far ?_ NB170_178.out _; (with_reducible repeat (first | refine blk_drewN ?_ _ | refine blk_drew ?_ | refine blk_alloc ?_ _)); exact BK170.out)) : gb170 ≠ gb179)); have n8_ := Aside0.mk ((by rw [hg]; exact Nat.ne_of_gt (blk_lt (g := gb170) (o := .cells #[.int .i64 a3_0, .int .u64 a3_1, .int .u64 a3_2, .int .i64 a3_3] 32 (0, 0)) (by (with_reducible repeat (first | refine blk_drewN ?_ _ | refine blk_drew ?_ | refine blk_alloc ?_ _)); refine blk_far ?_ NB170_178.out _; (with_reducible repeat (first | refine blk_drewN ?_ _ | refine blk_drew ?_ | refine blk_alloc ?_ _)); refine blk_far ?_ NB170_178.out _; (with_reducible repeat (first | refine blk_drewN ?_ _ | refine blk_drew ?_ | refine blk_alloc ?_ _)); refine blk_far ?_ NB170_178.out _; (with_reducible repeat (first | refine blk_drewN ?_ _ | refine blk_drew ?_ | refine blk_alloc ?_ _)); refine blk_far ?_ NB170_178.out _; (with_reducible repeat (first | refine blk_drewN ?_ _ | refine blk_drew ?_ | refine blk_alloc ?_ _)); refine blk_far ?_ NB170_178.out _; (with_reducible repeat (first | refine blk_drewN ?_ _ | refine blk_drew ?_ | refine blk_alloc ?_ _)); exact BK170.out)) : gb179 ≠ gb170)); have n9_ := Aside0.mk ((by rw [hg]; exact Nat.ne_of_lt (blk_lt (g := gb177) (o := .cells #[.int .i64 t172, .int .i64 t173, .int .i64 t174, .int .i64 t175, .int .i64 t176] 25 (0, 0)) (by (with_reducible repeat (first | refine blk_drewN ?_ _ | refine blk_drew ?_ | refine blk_alloc ?_ _)); refine blk_far ?_ NB177_178.out _; (with_reducible repeat (first | refine blk_drewN ?_ _ | refine blk_drew ?_ | refine blk_alloc ?_ _)); refine blk_far ?_ NB177_178.out _; (with_reducible repeat (first | refine blk_drewN ?_ _ | refine blk_drew ?_ | refine blk_alloc ?_ _)); refine blk_far ?_ NB177_178.out _; (with_reducible repeat (first | refine blk_drewN ?_ _ | refine blk_drew ?_ | refine blk_alloc ?_ _)); refine blk_far ?_ NB177_178.out _; (with_reducible repeat (first | refine blk_drewN ?_ _ | refine blk_drew ?_ | refine blk_alloc ?_ _)); refine blk_far ?_ NB177_178.out _; (with_reducible repeat (first | refine blk_drewN ?_ _ | refine blk_drew ?_ | refine blk_alloc ?_ _)); exact BK177.out)) : gb177 ≠ gb179)); have n10_ := Aside0.mk ((by rw [hg]; exact Nat.ne_of_gt (blk_lt (g := gb177) (o := .cells #[.int .i64 t172, .int .i64 t173, .int .i64 t174, .int .i64 t175, .int .i64 t176] 25 (0, 0)) (by (with_reducible repeat (first | refine blk_drewN ?_ _ | refine blk_drew ?_ | refine blk_alloc ?_ _)); refine blk_far ?_ NB177_178.out _; (with_reducible repeat (first | refine blk_drewN ?_ _ | refine blk_drew ?_ | refine blk_alloc ?_ _)); refine blk_far ?_ NB177_178.out _; (with_reducible repeat (first | refine blk_drewN ?_ _ | refine blk_drew ?_ | refine blk_alloc ?_ _)); refine blk_far ?_ NB177_178.out _; (with_reducible repeat (first | refine blk_drewN ?_ _ | refine blk_drew ?_ | refine blk_alloc ?_ _)); refine blk_far ?_ NB177_178.out _; (with_reducible repeat (first | refine blk_drewN ?_ _ | refine blk_drew ?_ | refine blk_alloc ?_ _)); refine blk_far ?_ NB177_178.out _; (with_reducible repeat (first | refine blk_drewN ?_ _ | refine blk_drew ?_ | refine blk_alloc ?_ _)); exact BK177.out)) : gb179 ≠ gb177)); have n11_ := Aside0.mk ((by rw [hg]; exact Nat.ne_of_lt (blk_lt (g := gb178) (o := .cells #[.int .i64 2, .int .i64 (wrap64 (1 + (wrap64 (Int.tmod (IntKind.u64.wrap (a0)) 8388607)))), .int .i64 (wrap64 (1 + (wrap64 (Int.tmod (IntKind.u64.wrap (a1)) 64)))), .int .i64 1, .int .i64 2] 25 (0, 0)) (by (with_reducible repeat (first | refine blk_drewN ?_ _ | refine blk_drew ?_ | refine blk_alloc ?_ _)); refine blk_put (cs := #[.int .i64 2, .int .i64 (wrap64 (1 + (wrap64 (Int.tmod (IntKind.u64.wrap (a0)) 8388607)))), .int .i64 (wrap64 (1 + (wrap64 (Int.tmod (IntKind.u64.wrap (a1)) 64)))), .int .i64 1, .int .i64 0]) ?_ 4 _ rfl; (with_reducible repeat (first | refine blk_drewN ?_ _ | refine blk_drew ?_ | refine blk_alloc ?_ _)); refine blk_put (cs := #[.int .i64 2, .int .i64 (wrap64 (1 + (wrap64 (Int.tmod (IntKind.u64.wrap (a0)) 8388607)))), .int .i64 (wrap64 (1 + (wrap64 (Int.tmod (IntKind.u64.wrap (a1)) 64)))), .int .i64 0, .int .i64 0]) ?_ 3 _ rfl; (with_reducible repeat (first | refine blk_drewN ?_ _ | refine blk_drew ?_ | refine blk_alloc ?_ _)); refine blk_put (cs := #[.int .i64 2, .int .i64 (wrap64 (1 + (wrap64 (Int.tmod (IntKind.u64.wrap (a0)) 8388607)))), .int .i64 0, .int .i64 0, .int .i64 0]) ?_ 2 _ rfl; (with_reducible repeat (first | refine blk_drewN ?_ _ | refine blk_drew ?_ | refine blk_alloc ?_ _)); refine blk_put (cs := #[.int .i64 2, .int .i64 0, .int .i64 0, .int .i64 0, .int .i64 0]) ?_ 1 _ rfl; (with_reducible repeat (first | refine blk_drewN ?_ _ | refine blk_drew ?_ | refine blk_alloc ?_ _)); refine blk_put (cs := #[.int .i64 0, .int .i64 0, .int .i64 0, .int .i64 0, .int .i64 0]) ?_ 0 _ rfl; (with_reducible repeat (first | refine blk_drewN ?_ _ | refine blk_drew ?_ | refine blk_alloc ?_ _)); exact BK178.out)) : gb178 ≠ gb179)); have n12_ := Aside0.mk ((by rw [hg]; exact Nat.ne_of_gt (blk_lt (g := gb178) (o := .cells #[.int .i64 2, .int .i64 (wrap64 (1 + (wrap64 (Int.tmod (IntKind.u64.wrap (a0)) 8388607)))), .int .i64 (wrap64 (1 + (wrap64 (Int.tmod (IntKind.u64.wrap (a1)) 64)))), .int .i64 1, .int .i64 2] 25 (0, 0)) (by (with_reducible repeat (first | refine blk_drewN ?_ _ | refine blk_drew ?_ | refine blk_alloc ?_ _)); refine blk_put (cs := #[.int .i64 2, .int .i64 (wrap64 (1 + (wrap64 (Int.tmod (IntKind.u64.wrap (a0)) 8388607)))), .int .i64 (wrap64 (1 + (wrap64 (Int.tmod (IntKind.u64.wrap (a1)) 64)))), .int .i64 1, .int .i64 0]) ?_ 4 _ rfl; (with_reducible repeat (first | refine blk_drewN ?_ _ | refine blk_drew ?_ | refine blk_alloc ?_ _)); refine blk_put (cs := #[.int .i64 2, .int .i64 (wrap64 (1 + (wrap64 (Int.tmod (IntKind.u64.wrap (a0)) 8388607)))), .int .i64 (wrap64 (1 + (wrap64 (Int.tmod (IntKind.u64.wrap (a1)) 64)))), .int .i64 0, .int .i64 0]) ?_ 3 _ rfl; (with_reducible repeat (first | refine blk_drewN ?_ _ | refine blk_drew ?_ | refine blk_alloc ?_ _)); refine blk_put (cs := #[.int .i64 2, .int .i64 (wrap64 (1 + (wrap64 (Int.tmod (IntKind.u64.wrap (a0)) 8388607)))), .int .i64 0, .int .i64 0, .int .i64 0]) ?_ 2 _ rfl; (with_reducible repeat (first | refine blk_drewN ?_ _ | refine blk_drew ?_ | refine blk_alloc ?_ _)); refine blk_put (cs := #[.int .i64 2, .int .i64 0, .int .i64 0, .int .i64 0, .int .i64 0]) ?_ 1 _ rfl; (with_reducible repeat (first | refine blk_drewN ?_ _ | refine blk_drew ?_ | refine blk_alloc ?_ _)); refine blk_put (cs := #[.int .i64 0, .int .i64 0, .int .i64 0, .int .i64 0, .int .i64 0]) ?_ 0 _ rfl; (with_reducible repeat (first | refine blk_drewN ?_ _ | refine blk_drew ?_ | refine blk_alloc ?_ _)); exact BK178.out)) : gb179 ≠ gb178)); clear BK170; clear BK177; clear BK178; clear HB; have BK170 := n0_; have BK177 := n1_; have BK178 := n2_; have HB := n3_; have BK179 := n4_; have GW179 := n5_; have GE179 := n6_; have NB170_179 := n7_; have NB179_170 := n8_; have NB177_179 := n9_; have NB179_177 := n10_; have NB178_179 := n11_; have NB179_178 := n12_; clear n0_ n1_ n2_ n3_ n4_ n5_ n6_ n7_ n8_ n9_ n10_ n11_ n12_; clear hb hbox hg; have hnb20 := NB179_170.out; have hnc20 := NB170_179.out; have hnb21 := NB179_177.out; have hnc21 := NB177_179.out; have hnb22 := NB179_178.out; have hnc22 := NB178_179.out; have hcz23_0 : w19.cell? ⟨gb179, 0, none⟩ = some (.int .i64 0) := (blk_cell BK179.out 0).trans rfl; have hcz23_1 : w19.cell? ⟨gb179, 1, none⟩ = some (.int .i64 0) := (blk_cell BK179.out 1).trans rfl; have hcz23_2 : w19.cell? ⟨gb179, 2, none⟩ = some (.int .i64 0) := (blk_cell BK179.out 2).trans rfl; have hcz23_3 : w19.cell? ⟨gb179, 3, none⟩ = some (.int .i64 0) := (blk_cell BK179.out 3).trans rfl; have hcz23_4 : w19.cell? ⟨gb179, 4, none⟩ = some (.int .i64 0) := (blk_cell BK179.out 4).trans rfl; have hfz23_0 := blk_frozen BK179.out 0; have hfz23_1 := blk_frozen BK179.out 1; have hfz23_2 := blk_frozen BK179.out 2; have hfz23_3 := blk_frozen BK179.out 3; have hfz23_4 := blk_frozen BK179.out 4))
    (try simp only [Act.put, List.setIfInBounds_toArray, List.set_cons_zero, List.set_cons_succ])
    go_cut [51] (fun v51 wc => ∃ (kq : Nat) (x51_7 : Bool), v51 = .bool x51_7 ∧ Aside0 (revenantlaw03_ConfOps.j0 kq x51_7 a3_0 a3_1 a3_2 a3_3 t172 t173 t174 t175 t176 2 (wrap64 (1 + (wrap64 (Int.tmod (IntKind.u64.wrap (a0)) 8388607)))) (wrap64 (1 + (wrap64 (Int.tmod (IntKind.u64.wrap (a1)) 64)))) 1 2 3 (wrap64 (1 + (wrap64 (Int.tmod (IntKind.u64.wrap (a0)) 8388607)))) 0 (wrap64 (1 + (wrap64 (Int.tmod (IntKind.u64.wrap (a2)) 16)))) 2 = some r) ∧ Aside0 (kq ≤ k) ∧ Aside0 (wc.heap[gb170]? = some (.cells #[.int .i64 a3_0, .int .u64 a3_1, .int .u64 a3_2, .int .i64 a3_3] 32 (0, 0))) ∧ Aside0 (wc.heap[gb177]? = some (.cells #[.int .i64 t172, .int .i64 t173, .int .i64 t174, .int .i64 t175, .int .i64 t176] 25 (0, 0))) ∧ Aside0 (wc.heap[gb178]? = some (.cells #[.int .i64 2, .int .i64 (wrap64 (1 + (wrap64 (Int.tmod (IntKind.u64.wrap (a0)) 8388607)))), .int .i64 (wrap64 (1 + (wrap64 (Int.tmod (IntKind.u64.wrap (a1)) 64)))), .int .i64 1, .int .i64 2] 25 (0, 0))) ∧ Aside0 (wc.heap[gb179]? = some (.cells #[.int .i64 3, .int .i64 (wrap64 (1 + (wrap64 (Int.tmod (IntKind.u64.wrap (a0)) 8388607)))), .int .i64 0, .int .i64 (wrap64 (1 + (wrap64 (Int.tmod (IntKind.u64.wrap (a2)) 16)))), .int .i64 2] 25 (0, 0))) ∧ Aside0 (Below w.heap.size w wc))
    case first =>
      have H := HC8.out
      clear HC8
      replace H := Option.bind_eq_some_iff.mp H
      obtain ⟨t180, A240, H⟩ := H
      replace H : (if t180 = 0 then ((conf_Check.f k 2 (wrap64 (1 + (wrap64 (Int.tmod (IntKind.u64.wrap (a0)) 8388607)))) (wrap64 (1 + (wrap64 (Int.tmod (IntKind.u64.wrap (a1)) 64)))) 1 2).bind fun t181 => (if t181 = 0 then ((conf_Check.f k 3 (wrap64 (1 + (wrap64 (Int.tmod (IntKind.u64.wrap (a0)) 8388607)))) 0 (wrap64 (1 + (wrap64 (Int.tmod (IntKind.u64.wrap (a2)) 16)))) 2).bind fun t182 => (revenantlaw03_ConfOps.j0 k (t182 != 0) a3_0 a3_1 a3_2 a3_3 t172 t173 t174 t175 t176 2 (wrap64 (1 + (wrap64 (Int.tmod (IntKind.u64.wrap (a0)) 8388607)))) (wrap64 (1 + (wrap64 (Int.tmod (IntKind.u64.wrap (a1)) 64)))) 1 2 3 (wrap64 (1 + (wrap64 (Int.tmod (IntKind.u64.wrap (a0)) 8388607)))) 0 (wrap64 (1 + (wrap64 (Int.tmod (IntKind.u64.wrap (a2)) 16)))) 2)) else (revenantlaw03_ConfOps.j0 k true a3_0 a3_1 a3_2 a3_3 t172 t173 t174 t175 t176 2 (wrap64 (1 + (wrap64 (Int.tmod (IntKind.u64.wrap (a0)) 8388607)))) (wrap64 (1 + (wrap64 (Int.tmod (IntKind.u64.wrap (a1)) 64)))) 1 2 3 (wrap64 (1 + (wrap64 (Int.tmod (IntKind.u64.wrap (a0)) 8388607)))) 0 (wrap64 (1 + (wrap64 (Int.tmod (IntKind.u64.wrap (a2)) 16)))) 2))) else (revenantlaw03_ConfOps.j0 k true a3_0 a3_1 a3_2 a3_3 t172 t173 t174 t175 t176 2 (wrap64 (1 + (wrap64 (Int.tmod (IntKind.u64.wrap (a0)) 8388607)))) (wrap64 (1 + (wrap64 (Int.tmod (IntKind.u64.wrap (a1)) 64)))) 1 2 3 (wrap64 (1 + (wrap64 (Int.tmod (IntKind.u64.wrap (a0)) 8388607)))) 0 (wrap64 (1 + (wrap64 (Int.tmod (IntKind.u64.wrap (a2)) 16)))) 2)) = some r := H
      have A24 := Aside0.mk A240
      clear A240
      by_cases c25 : t180 = 0
      · rw [if_pos c25] at H
        have c25b0 : (t180 == 0) = true := beq_iff_eq.mpr c25
        have c25b1 : (t180 != 0) = false := bne_eq_false_iff_eq.mpr c25
        clear c25
        (first | rw [c25b0] | (simp only [i64_w, i32_w]; rw [c25b0]) | skip)
        replace H := Option.bind_eq_some_iff.mp H
        obtain ⟨t181, A260, H⟩ := H
        replace H : (if t181 = 0 then ((conf_Check.f k 3 (wrap64 (1 + (wrap64 (Int.tmod (IntKind.u64.wrap (a0)) 8388607)))) 0 (wrap64 (1 + (wrap64 (Int.tmod (IntKind.u64.wrap (a2)) 16)))) 2).bind fun t182 => (revenantlaw03_ConfOps.j0 k (t182 != 0) a3_0 a3_1 a3_2 a3_3 t172 t173 t174 t175 t176 2 (wrap64 (1 + (wrap64 (Int.tmod (IntKind.u64.wrap (a0)) 8388607)))) (wrap64 (1 + (wrap64 (Int.tmod (IntKind.u64.wrap (a1)) 64)))) 1 2 3 (wrap64 (1 + (wrap64 (Int.tmod (IntKind.u64.wrap (a0)) 8388607)))) 0 (wrap64 (1 + (wrap64 (Int.tmod (IntKind.u64.wrap (a2)) 16)))) 2)) else (revenantlaw03_ConfOps.j0 k true a3_0 a3_1 a3_2 a3_3 t172 t173 t174 t175 t176 2 (wrap64 (1 + (wrap64 (Int.tmod (IntKind.u64.wrap (a0)) 8388607)))) (wrap64 (1 + (wrap64 (Int.tmod (IntKind.u64.wrap (a1)) 64)))) 1 2 3 (wrap64 (1 + (wrap64 (Int.tmod (IntKind.u64.wrap (a0)) 8388607)))) 0 (wrap64 (1 + (wrap64 (Int.tmod (IntKind.u64.wrap (a2)) 16)))) 2)) = some r := H
        have A26 := Aside0.mk A260
        clear A260
        by_cases c27 : t181 = 0
        · rw [if_pos c27] at H
          have c27b0 : (t181 == 0) = true := beq_iff_eq.mpr c27
          have c27b1 : (t181 != 0) = false := bne_eq_false_iff_eq.mpr c27
          clear c27
          replace H := Option.bind_eq_some_iff.mp H
          obtain ⟨t182, A280, H⟩ := H
          replace H : (revenantlaw03_ConfOps.j0 k (t182 != 0) a3_0 a3_1 a3_2 a3_3 t172 t173 t174 t175 t176 2 (wrap64 (1 + (wrap64 (Int.tmod (IntKind.u64.wrap (a0)) 8388607)))) (wrap64 (1 + (wrap64 (Int.tmod (IntKind.u64.wrap (a1)) 64)))) 1 2 3 (wrap64 (1 + (wrap64 (Int.tmod (IntKind.u64.wrap (a0)) 8388607)))) 0 (wrap64 (1 + (wrap64 (Int.tmod (IntKind.u64.wrap (a2)) 16)))) 2) = some r := H
          have A28 := Aside0.mk A280
          clear A280
          have H' := Aside0.mk H
          clear H
          have hnb29 := NB177_170.out
          have hnc29 := NB170_177.out
          have hnb30 := NB177_178.out
          have hnc30 := NB178_177.out
          have hnb31 := NB177_179.out
          have hnc31 := NB179_177.out
          have hcz32_0 : w19.cell? ⟨gb177, 0, none⟩ = some (.int .i64 t172) := (blk_cell BK177.out 0).trans rfl
          have hcz32_1 : w19.cell? ⟨gb177, 1, none⟩ = some (.int .i64 t173) := (blk_cell BK177.out 1).trans rfl
          have hcz32_2 : w19.cell? ⟨gb177, 2, none⟩ = some (.int .i64 t174) := (blk_cell BK177.out 2).trans rfl
          have hcz32_3 : w19.cell? ⟨gb177, 3, none⟩ = some (.int .i64 t175) := (blk_cell BK177.out 3).trans rfl
          have hcz32_4 : w19.cell? ⟨gb177, 4, none⟩ = some (.int .i64 t176) := (blk_cell BK177.out 4).trans rfl
          have hfz32_0 := blk_frozen BK177.out 0
          have hfz32_1 := blk_frozen BK177.out 1
          have hfz32_2 := blk_frozen BK177.out 2
          have hfz32_3 := blk_frozen BK177.out 3
          have hfz32_4 := blk_frozen BK177.out 4
          go_wp2_with (first | ((with_reducible refine gate_callee (f := 10) rfl ?_); refine goesL_ (some 40) rfl rfl Try.func10 (by kernel_rfl) rfl #[.agg #[.int .i64 t172, .int .i64 t173, .int .i64 t174, .int .i64 t175, .int .i64 t176]] rfl (by (try simp only [List.map_toArray, List.map_cons, List.map_nil]); first | done | rfl | (simp only [List.length_drop, List.length_take]; rfl)) ?_; (with_reducible refine (conf_Check.calls k t172 t173 t174 t175 t176 t180 _ A24.out).mono ?_); rintro e w33 ⟨rfl, hb⟩; refine ⟨_, rfl, ?_⟩; have n0_ := Aside0.mk (blk_below (g := gb170) (o := .cells #[.int .i64 a3_0, .int .u64 a3_1, .int .u64 a3_2, .int .i64 a3_3] 32 (0, 0)) (by (with_reducible repeat (first | refine blk_drewN ?_ _ | refine blk_drew ?_ | refine blk_alloc ?_ _)); refine blk_far ?_ NB170_179.out _; (with_reducible repeat (first | refine blk_drewN ?_ _ | refine blk_drew ?_ | refine blk_alloc ?_ _)); refine blk_far ?_ NB170_179.out _; (with_reducible repeat (first | refine blk_drewN ?_ _ | refine blk_drew ?_ | refine blk_alloc ?_ _)); refine blk_far ?_ NB170_179.out _; (with_reducible repeat (first | refine blk_drewN ?_ _ | refine blk_drew ?_ | refine blk_alloc ?_ _)); refine blk_far ?_ NB170_179.out _; (with_reducible repeat (first | refine blk_drewN ?_ _ | refine blk_drew ?_ | refine blk_alloc ?_ _)); refine blk_far ?_ NB170_179.out _; (with_reducible repeat (first | refine blk_drewN ?_ _ | refine blk_drew ?_ | refine blk_alloc ?_ _)); exact BK170.out) hb); have n1_ := Aside0.mk (blk_below (g := gb177) (o := .cells #[.int .i64 t172, .int .i64 t173, .int .i64 t174, .int .i64 t175, .int .i64 t176] 25 (0, 0)) (by (with_reducible repeat (first | refine blk_drewN ?_ _ | refine blk_drew ?_ | refine blk_alloc ?_ _)); refine blk_far ?_ NB177_179.out _; (with_reducible repeat (first | refine blk_drewN ?_ _ | refine blk_drew ?_ | refine blk_alloc ?_ _)); refine blk_far ?_ NB177_179.out _; (with_reducible repeat (first | refine blk_drewN ?_ _ | refine blk_drew ?_ | refine blk_alloc ?_ _)); refine blk_far ?_ NB177_179.out _; (with_reducible repeat (first | refine blk_drewN ?_ _ | refine blk_drew ?_ | refine blk_alloc ?_ _)); refine blk_far ?_ NB177_179.out _; (with_reducible repeat (first | refine blk_drewN ?_ _ | refine blk_drew ?_ | refine blk_alloc ?_ _)); refine blk_far ?_ NB177_179.out _; (with_reducible repeat (first | refine blk_drewN ?_ _ | refine blk_drew ?_ | refine blk_alloc ?_ _)); exact BK177.out) hb); have n2_ := Aside0.mk (blk_below (g := gb178) (o := .cells #[.int .i64 2, .int .i64 (wrap64 (1 + (wrap64 (Int.tmod (IntKind.u64.wrap (a0)) 8388607)))), .int .i64 (wrap64 (1 + (wrap64 (Int.tmod (IntKind.u64.wrap (a1)) 64)))), .int .i64 1, .int .i64 2] 25 (0, 0)) (by (with_reducible repeat (first | refine blk_drewN ?_ _ | refine blk_drew ?_ | refine blk_alloc ?_ _)); refine blk_far ?_ NB178_179.out _; (with_reducible repeat (first | refine blk_drewN ?_ _ | refine blk_drew ?_ | refine blk_alloc ?_ _)); refine blk_far ?_ NB178_179.out _; (with_reducible repeat (first | refine blk_drewN ?_ _ | refine blk_drew ?_ | refine blk_alloc ?_ _)); refine blk_far ?_ NB178_179.out _; (with_reducible repeat (first | refine blk_drewN ?_ _ | refine blk_drew ?_ | refine blk_alloc ?_ _)); refine blk_far ?_ NB178_179.out _; (with_reducible repeat (first | refine blk_drewN ?_ _ | refine blk_drew ?_ | refine blk_alloc ?_ _)); refine blk_far ?_ NB178_179.out _; (with_reducible repeat (first | refine blk_drewN ?_ _ | refine blk_drew ?_ | refine blk_alloc ?_ _)); exact BK178.out) hb); have n3_ := Aside0.mk (blk_below (g := gb179) (o := .cells #[.int .i64 3, .int .i64 (wrap64 (1 + (wrap64 (Int.tmod (IntKind.u64.wrap (a0)) 8388607)))), .int .i64 0, .int .i64 (wrap64 (1 + (wrap64 (Int.tmod (IntKind.u64.wrap (a2)) 16)))), .int .i64 2] 25 (0, 0)) (by (with_reducible repeat (first | refine blk_drewN ?_ _ | refine blk_drew ?_ | refine blk_alloc ?_ _)); refine blk_put (cs := #[.int .i64 3, .int .i64 (wrap64 (1 + (wrap64 (Int.tmod (IntKind.u64.wrap (a0)) 8388607)))), .int .i64 0, .int .i64 (wrap64 (1 + (wrap64 (Int.tmod (IntKind.u64.wrap (a2)) 16)))), .int .i64 0]) ?_ 4 _ rfl; (with_reducible repeat (first | refine blk_drewN ?_ _ | refine blk_drew ?_ | refine blk_alloc ?_ _)); refine blk_put (cs := #[.int .i64 3, .int .i64 (wrap64 (1 + (wrap64 (Int.tmod (IntKind.u64.wrap (a0)) 8388607)))), .int .i64 0, .int .i64 0, .int .i64 0]) ?_ 3 _ rfl; (with_reducible repeat (first | refine blk_drewN ?_ _ | refine blk_drew ?_ | refine blk_alloc ?_ _)); refine blk_put (cs := #[.int .i64 3, .int .i64 (wrap64 (1 + (wrap64 (Int.tmod (IntKind.u64.wrap (a0)) 8388607)))), .int .i64 0, .int .i64 0, .int .i64 0]) ?_ 2 _ rfl; (with_reducible repeat (first | refine blk_drewN ?_ _ | refine blk_drew ?_ | refine blk_alloc ?_ _)); refine blk_put (cs := #[.int .i64 3, .int .i64 0, .int .i64 0, .int .i64 0, .int .i64 0]) ?_ 1 _ rfl; (with_reducible repeat (first | refine blk_drewN ?_ _ | refine blk_drew ?_ | refine blk_alloc ?_ _)); refine blk_put (cs := #[.int .i64 0, .int .i64 0, .int .i64 0, .int .i64 0, .int .i64 0]) ?_ 0 _ rfl; (with_reducible repeat (first | refine blk_drewN ?_ _ | refine blk_drew ?_ | refine blk_alloc ?_ _)); exact BK179.out) hb); have n4_ := Aside0.mk (below_step (by repeat (first | (with_reducible first | exact HB.out | apply below_alloc | apply pw_below_drewN | apply below_drew1 | refine below_set ?_ GE170.out | refine below_set ?_ GE177.out | refine below_set ?_ GE178.out | refine below_set ?_ GE179.out) | exact HB.out)) hb); clear BK170; clear BK177; clear BK178; clear BK179; clear HB; have BK170 := n0_; have BK177 := n1_; have BK178 := n2_; have BK179 := n3_; have HB := n4_; clear n0_ n1_ n2_ n3_ n4_; (try clear hb); (try clear hb2); (try clear hk); (try clear hi); have hnb34 := NB178_170.out; have hnc34 := NB170_178.out; have hnb35 := NB178_179.out; have hnc35 := NB179_178.out; have hcz36_0 : w33.cell? ⟨gb178, 0, none⟩ = some (.int .i64 2) := (blk_cell BK178.out 0).trans rfl; have hcz36_1 : w33.cell? ⟨gb178, 1, none⟩ = some (.int .i64 (wrap64 (1 + (wrap64 (Int.tmod (IntKind.u64.wrap (a0)) 8388607))))) := (blk_cell BK178.out 1).trans rfl; have hcz36_2 : w33.cell? ⟨gb178, 2, none⟩ = some (.int .i64 (wrap64 (1 + (wrap64 (Int.tmod (IntKind.u64.wrap (a1)) 64))))) := (blk_cell BK178.out 2).trans rfl; have hcz36_3 : w33.cell? ⟨gb178, 3, none⟩ = some (.int .i64 1) := (blk_cell BK178.out 3).trans rfl; have hcz36_4 : w33.cell? ⟨gb178, 4, none⟩ = some (.int .i64 2) := (blk_cell BK178.out 4).trans rfl; have hfz36_0 := blk_frozen BK178.out 0; have hfz36_1 := blk_frozen BK178.out 1; have hfz36_2 := blk_frozen BK178.out 2; have hfz36_3 := blk_frozen BK178.out 3; have hfz36_4 := blk_frozen BK178.out 4) | (go_at_call 10; (with_reducible refine (conf_Check.calls k 2 (wrap64 (1 + (wrap64 (Int.tmod (IntKind.u64.wrap (a0)) 8388607)))) (wrap64 (1 + (wrap64 (Int.tmod (IntKind.u64.wrap (a1)) 64)))) 1 2 t181 _ A26.out).mono ?_); rintro e w37 ⟨rfl, hb⟩; have n0_ := Aside0.mk (blk_below (g := gb170) (o := .cells #[.int .i64 a3_0, .int .u64 a3_1, .int .u64 a3_2, .int .i64 a3_3] 32 (0, 0)) (by (with_reducible repeat (first | refine blk_drewN ?_ _ | refine blk_drew ?_ | refine blk_alloc ?_ _)); exact BK170.out) hb); have n1_ := Aside0.mk (blk_below (g := gb177) (o := .cells #[.int .i64 t172, .int .i64 t173, .int .i64 t174, .int .i64 t175, .int .i64 t176] 25 (0, 0)) (by (with_reducible repeat (first | refine blk_drewN ?_ _ | refine blk_drew ?_ | refine blk_alloc ?_ _)); exact BK177.out) hb); have n2_ := Aside0.mk (blk_below (g := gb178) (o := .cells #[.int .i64 2, .int .i64 (wrap64 (1 + (wrap64 (Int.tmod (IntKind.u64.wrap (a0)) 8388607)))), .int .i64 (wrap64 (1 + (wrap64 (Int.tmod (IntKind.u64.wrap (a1)) 64)))), .int .i64 1, .int .i64 2] 25 (0, 0)) (by (with_reducible repeat (first | refine blk_drewN ?_ _ | refine blk_drew ?_ | refine blk_alloc ?_ _)); exact BK178.out) hb); have n3_ := Aside0.mk (blk_below (g := gb179) (o := .cells #[.int .i64 3, .int .i64 (wrap64 (1 + (wrap64 (Int.tmod (IntKind.u64.wrap (a0)) 8388607)))), .int .i64 0, .int .i64 (wrap64 (1 + (wrap64 (Int.tmod (IntKind.u64.wrap (a2)) 16)))), .int .i64 2] 25 (0, 0)) (by (with_reducible repeat (first | refine blk_drewN ?_ _ | refine blk_drew ?_ | refine blk_alloc ?_ _)); exact BK179.out) hb); have n4_ := Aside0.mk (below_step (by repeat (first | (with_reducible first | exact HB.out | apply below_alloc | apply pw_below_drewN | apply below_drew1 | refine below_set ?_ GE170.out | refine below_set ?_ GE177.out | refine below_set ?_ GE178.out | refine below_set ?_ GE179.out) | exact HB.out)) hb); clear BK170; clear BK177; clear BK178; clear BK179; clear HB; have BK170 := n0_; have BK177 := n1_; have BK178 := n2_; have BK179 := n3_; have HB := n4_; clear n0_ n1_ n2_ n3_ n4_; (try clear hb); (try clear hb2); (try clear hk); (try clear hi); have hnb38 := NB179_170.out; have hnc38 := NB170_179.out; have hcz39_0 : w37.cell? ⟨gb179, 0, none⟩ = some (.int .i64 3) := (blk_cell BK179.out 0).trans rfl; have hcz39_1 : w37.cell? ⟨gb179, 1, none⟩ = some (.int .i64 (wrap64 (1 + (wrap64 (Int.tmod (IntKind.u64.wrap (a0)) 8388607))))) := (blk_cell BK179.out 1).trans rfl; have hcz39_2 : w37.cell? ⟨gb179, 2, none⟩ = some (.int .i64 0) := (blk_cell BK179.out 2).trans rfl; have hcz39_3 : w37.cell? ⟨gb179, 3, none⟩ = some (.int .i64 (wrap64 (1 + (wrap64 (Int.tmod (IntKind.u64.wrap (a2)) 16))))) := (blk_cell BK179.out 3).trans rfl; have hcz39_4 : w37.cell? ⟨gb179, 4, none⟩ = some (.int .i64 2) := (blk_cell BK179.out 4).trans rfl; have hfz39_0 := blk_frozen BK179.out 0; have hfz39_1 := blk_frozen BK179.out 1; have hfz39_2 := blk_frozen BK179.out 2; have hfz39_3 := blk_frozen BK179.out 3; have hfz39_4 := blk_frozen BK179.out 4) | (go_at_call 10; (with_reducible refine (conf_Check.calls k 3 (wrap64 (1 + (wrap64 (Int.tmod (IntKind.u64.wrap (a0)) 8388607)))) 0 (wrap64 (1 + (wrap64 (Int.tmod (IntKind.u64.wrap (a2)) 16)))) 2 t182 _ A28.out).mono ?_); rintro e w40 ⟨rfl, hb⟩; have n0_ := Aside0.mk (blk_below (g := gb170) (o := .cells #[.int .i64 a3_0, .int .u64 a3_1, .int .u64 a3_2, .int .i64 a3_3] 32 (0, 0)) (by (with_reducible repeat (first | refine blk_drewN ?_ _ | refine blk_drew ?_ | refine blk_alloc ?_ _)); exact BK170.out) hb); have n1_ := Aside0.mk (blk_below (g := gb177) (o := .cells #[.int .i64 t172, .int .i64 t173, .int .i64 t174, .int .i64 t175, .int .i64 t176] 25 (0, 0)) (by (with_reducible repeat (first | refine blk_drewN ?_ _ | refine blk_drew ?_ | refine blk_alloc ?_ _)); exact BK177.out) hb); have n2_ := Aside0.mk (blk_below (g := gb178) (o := .cells #[.int .i64 2, .int .i64 (wrap64 (1 + (wrap64 (Int.tmod (IntKind.u64.wrap (a0)) 8388607)))), .int .i64 (wrap64 (1 + (wrap64 (Int.tmod (IntKind.u64.wrap (a1)) 64)))), .int .i64 1, .int .i64 2] 25 (0, 0)) (by (with_reducible repeat (first | refine blk_drewN ?_ _ | refine blk_drew ?_ | refine blk_alloc ?_ _)); exact BK178.out) hb); have n3_ := Aside0.mk (blk_below (g := gb179) (o := .cells #[.int .i64 3, .int .i64 (wrap64 (1 + (wrap64 (Int.tmod (IntKind.u64.wrap (a0)) 8388607)))), .int .i64 0, .int .i64 (wrap64 (1 + (wrap64 (Int.tmod (IntKind.u64.wrap (a2)) 16)))), .int .i64 2] 25 (0, 0)) (by (with_reducible repeat (first | refine blk_drewN ?_ _ | refine blk_drew ?_ | refine blk_alloc ?_ _)); exact BK179.out) hb); have n4_ := Aside0.mk (below_step (by repeat (first | (with_reducible first | exact HB.out | apply below_alloc | apply pw_below_drewN | apply below_drew1 | refine below_set ?_ GE170.out | refine below_set ?_ GE177.out | refine below_set ?_ GE178.out | refine below_set ?_ GE179.out) | exact HB.out)) hb); clear BK170; clear BK177; clear BK178; clear BK179; clear HB; have BK170 := n0_; have BK177 := n1_; have BK178 := n2_; have BK179 := n3_; have HB := n4_; clear n0_ n1_ n2_ n3_ n4_; (try clear hb); (try clear hb2); (try clear hk); (try clear hi)))
          go_meet
          case rel => exact ⟨_, ((t182 != 0)), (by first | rfl | (simp; done) | (simp [*]; done)), H', ⟨by first | omega | exact Nat.le_refl _⟩, ⟨by (with_reducible repeat (first | refine blk_drewN ?_ _ | refine blk_drew ?_ | refine blk_alloc ?_ _)); exact BK170.out⟩, ⟨by (with_reducible repeat (first | refine blk_drewN ?_ _ | refine blk_drew ?_ | refine blk_alloc ?_ _)); exact BK177.out⟩, ⟨by (with_reducible repeat (first | refine blk_drewN ?_ _ | refine blk_drew ?_ | refine blk_alloc ?_ _)); exact BK178.out⟩, ⟨by (with_reducible repeat (first | refine blk_drewN ?_ _ | refine blk_drew ?_ | refine blk_alloc ?_ _)); exact BK179.out⟩, ⟨by repeat (first | (with_reducible first | exact HB.out | apply below_alloc | apply pw_below_drewN | apply below_drew1 | refine below_set ?_ GE170.out | refine below_set ?_ GE177.out | refine below_set ?_ GE178.out | refine below_set ?_ GE179.out) | exact HB.out)⟩⟩
        · rw [if_neg c27] at H
          exact absurd ((revenantlaw03_ConfOps.j0_no H).symm.trans HR.out) (by decide)
      · rw [if_neg c25] at H
        exact absurd ((revenantlaw03_ConfOps.j0_no H).symm.trans HR.out) (by decide)
    case rest =>
      clear HC8
      try clear c1
      try clear c2
      try clear p2
      try clear c3
      try clear c4
      try clear c5
      try clear c6
      try clear p6
      try clear c10
      try clear c13
      try clear c16
      try clear c17
      try clear c20
      try clear c21
      try clear c22
      try clear c25
      try clear c25b0
      try clear c25b1
      try clear c27
      try clear c27b0
      try clear c27b1
      try clear c29
      try clear c30
      try clear c31
      try clear c34
      try clear c35
      try clear c38
      try clear c41
      try clear c42
      try clear c43
      try clear c46
      try clear c47
      try clear c50
      try clear c51
      try clear c52
      try clear hcz14_0
      try clear hcz14_1
      try clear hcz14_2
      try clear hcz14_3
      try clear hcz14_4
      try clear hcz18_0
      try clear hcz18_1
      try clear hcz18_2
      try clear hcz18_3
      try clear hcz18_4
      try clear hcz23_0
      try clear hcz23_1
      try clear hcz23_2
      try clear hcz23_3
      try clear hcz23_4
      try clear hcz32_0
      try clear hcz32_1
      try clear hcz32_2
      try clear hcz32_3
      try clear hcz32_4
      try clear hcz36_0
      try clear hcz36_1
      try clear hcz36_2
      try clear hcz36_3
      try clear hcz36_4
      try clear hcz39_0
      try clear hcz39_1
      try clear hcz39_2
      try clear hcz39_3
      try clear hcz39_4
      try clear hcz44_0
      try clear hcz44_1
      try clear hcz44_2
      try clear hcz44_3
      try clear hcz44_4
      try clear hcz48_0
      try clear hcz48_1
      try clear hcz48_2
      try clear hcz48_3
      try clear hcz48_4
      try clear hcz53_0
      try clear hcz53_1
      try clear hcz53_2
      try clear hcz53_3
      try clear hcz53_4
      try clear hfz14_0
      try clear hfz14_1
      try clear hfz14_2
      try clear hfz14_3
      try clear hfz14_4
      try clear hfz18_0
      try clear hfz18_1
      try clear hfz18_2
      try clear hfz18_3
      try clear hfz18_4
      try clear hfz23_0
      try clear hfz23_1
      try clear hfz23_2
      try clear hfz23_3
      try clear hfz23_4
      try clear hfz32_0
      try clear hfz32_1
      try clear hfz32_2
      try clear hfz32_3
      try clear hfz32_4
      try clear hfz36_0
      try clear hfz36_1
      try clear hfz36_2
      try clear hfz36_3
      try clear hfz36_4
      try clear hfz39_0
      try clear hfz39_1
      try clear hfz39_2
      try clear hfz39_3
      try clear hfz39_4
      try clear hfz44_0
      try clear hfz44_1
      try clear hfz44_2
      try clear hfz44_3
      try clear hfz44_4
      try clear hfz48_0
      try clear hfz48_1
      try clear hfz48_2
      try clear hfz48_3
      try clear hfz48_4
      try clear hfz53_0
      try clear hfz53_1
      try clear hfz53_2
      try clear hfz53_3
      try clear hfz53_4
      obtain ⟨kq, x51_7, rfl, HA, HJ7, BK170, BK177, BK178, BK179, HB⟩ := hcut
      cases kq with
      | zero => exact absurd HA.out (by simp [revenantlaw03_ConfOps.j0])
      | succ kj7 =>
        have H := HA.out
        clear HA
        simp only [revenantlaw03_ConfOps.j0] at H
        by_cases c55 : x51_7 = true
        · subst c55
          have H1 : (some false) = some r := by rw [if_pos rfl] at H; exact H
          clear H
          have H := H1
          clear H1
          exact absurd ((Option.some.inj H).trans HR.out) (by decide)
        · replace c55 := Bool.eq_false_iff.mpr c55
          subst c55
          have H1 : ((conf_IsOp.f kj7 t172 t173 t174 t175 t176 a3_0 a3_1 a3_2 a3_3).bind fun t183 => ((conf_IsOp.f kj7 2 (wrap64 (1 + (wrap64 (Int.tmod (IntKind.u64.wrap (a0)) 8388607)))) (wrap64 (1 + (wrap64 (Int.tmod (IntKind.u64.wrap (a1)) 64)))) 1 2 a3_0 a3_1 a3_2 a3_3).bind fun t184 => (if a3_0 = 8 then (if t183 = t184 then ((conf_IsOp.f kj7 3 (wrap64 (1 + (wrap64 (Int.tmod (IntKind.u64.wrap (a0)) 8388607)))) 0 (wrap64 (1 + (wrap64 (Int.tmod (IntKind.u64.wrap (a2)) 16)))) 2 a3_0 a3_1 a3_2 a3_3).bind fun t185 => (some (t183 == t185))) else (some false)) else (if t183 = 8 then (revenantlaw03_ConfOps.j1 kj7 t183 false a3_0 a3_1 a3_2 a3_3 3 (wrap64 (1 + (wrap64 (Int.tmod (IntKind.u64.wrap (a0)) 8388607)))) 0 (wrap64 (1 + (wrap64 (Int.tmod (IntKind.u64.wrap (a2)) 16)))) 2) else (revenantlaw03_ConfOps.j1 kj7 t183 (t184 != 8) a3_0 a3_1 a3_2 a3_3 3 (wrap64 (1 + (wrap64 (Int.tmod (IntKind.u64.wrap (a0)) 8388607)))) 0 (wrap64 (1 + (wrap64 (Int.tmod (IntKind.u64.wrap (a2)) 16)))) 2))))) = some r := by rw [if_neg (show ¬ (false = true) by decide)] at H; exact H
          clear H
          have H := H1
          clear H1
          replace H := Option.bind_eq_some_iff.mp H
          obtain ⟨t183, A560, H⟩ := H
          replace H : ((conf_IsOp.f kj7 2 (wrap64 (1 + (wrap64 (Int.tmod (IntKind.u64.wrap (a0)) 8388607)))) (wrap64 (1 + (wrap64 (Int.tmod (IntKind.u64.wrap (a1)) 64)))) 1 2 a3_0 a3_1 a3_2 a3_3).bind fun t184 => (if a3_0 = 8 then (if t183 = t184 then ((conf_IsOp.f kj7 3 (wrap64 (1 + (wrap64 (Int.tmod (IntKind.u64.wrap (a0)) 8388607)))) 0 (wrap64 (1 + (wrap64 (Int.tmod (IntKind.u64.wrap (a2)) 16)))) 2 a3_0 a3_1 a3_2 a3_3).bind fun t185 => (some (t183 == t185))) else (some false)) else (if t183 = 8 then (revenantlaw03_ConfOps.j1 kj7 t183 false a3_0 a3_1 a3_2 a3_3 3 (wrap64 (1 + (wrap64 (Int.tmod (IntKind.u64.wrap (a0)) 8388607)))) 0 (wrap64 (1 + (wrap64 (Int.tmod (IntKind.u64.wrap (a2)) 16)))) 2) else (revenantlaw03_ConfOps.j1 kj7 t183 (t184 != 8) a3_0 a3_1 a3_2 a3_3 3 (wrap64 (1 + (wrap64 (Int.tmod (IntKind.u64.wrap (a0)) 8388607)))) 0 (wrap64 (1 + (wrap64 (Int.tmod (IntKind.u64.wrap (a2)) 16)))) 2)))) = some r := H
          have A56 := Aside0.mk A560
          clear A560
          replace H := Option.bind_eq_some_iff.mp H
          obtain ⟨t184, A570, H⟩ := H
          replace H : (if a3_0 = 8 then (if t183 = t184 then ((conf_IsOp.f kj7 3 (wrap64 (1 + (wrap64 (Int.tmod (IntKind.u64.wrap (a0)) 8388607)))) 0 (wrap64 (1 + (wrap64 (Int.tmod (IntKind.u64.wrap (a2)) 16)))) 2 a3_0 a3_1 a3_2 a3_3).bind fun t185 => (some (t183 == t185))) else (some false)) else (if t183 = 8 then (revenantlaw03_ConfOps.j1 kj7 t183 false a3_0 a3_1 a3_2 a3_3 3 (wrap64 (1 + (wrap64 (Int.tmod (IntKind.u64.wrap (a0)) 8388607)))) 0 (wrap64 (1 + (wrap64 (Int.tmod (IntKind.u64.wrap (a2)) 16)))) 2) else (revenantlaw03_ConfOps.j1 kj7 t183 (t184 != 8) a3_0 a3_1 a3_2 a3_3 3 (wrap64 (1 + (wrap64 (Int.tmod (IntKind.u64.wrap (a0)) 8388607)))) 0 (wrap64 (1 + (wrap64 (Int.tmod (IntKind.u64.wrap (a2)) 16)))) 2))) = some r := H
          have A57 := Aside0.mk A570
          clear A570
          by_cases c58 : a3_0 = 8
          · rw [if_pos c58] at H
            have c58b0 : (a3_0 == 8) = true := beq_iff_eq.mpr c58
            have c58b1 : (a3_0 != 8) = false := bne_eq_false_iff_eq.mpr c58
            clear c58
            by_cases c59 : t183 = t184
            · rw [if_pos c59] at H
              have c59b0 : (t183 == t184) = true := beq_iff_eq.mpr c59
              have c59b1 : (t183 != t184) = false := bne_eq_false_iff_eq.mpr c59
              clear c59
              replace H := Option.bind_eq_some_iff.mp H
              obtain ⟨t185, A600, H⟩ := H
              replace H : (some (t183 == t185)) = some r := H
              have A60 := Aside0.mk A600
              clear A600
              obtain rfl := Option.some.inj H
              have hnb61 := NB177_170.out
              have hnc61 := NB170_177.out
              have hnb62 := NB177_178.out
              have hnc62 := NB178_177.out
              have hnb63 := NB177_179.out
              have hnc63 := NB179_177.out
              have hcz64_0 : wc.cell? ⟨gb177, 0, none⟩ = some (.int .i64 t172) := (blk_cell BK177.out 0).trans rfl
              have hcz64_1 : wc.cell? ⟨gb177, 1, none⟩ = some (.int .i64 t173) := (blk_cell BK177.out 1).trans rfl
              have hcz64_2 : wc.cell? ⟨gb177, 2, none⟩ = some (.int .i64 t174) := (blk_cell BK177.out 2).trans rfl
              have hcz64_3 : wc.cell? ⟨gb177, 3, none⟩ = some (.int .i64 t175) := (blk_cell BK177.out 3).trans rfl
              have hcz64_4 : wc.cell? ⟨gb177, 4, none⟩ = some (.int .i64 t176) := (blk_cell BK177.out 4).trans rfl
              have hfz64_0 := blk_frozen BK177.out 0
              have hfz64_1 := blk_frozen BK177.out 1
              have hfz64_2 := blk_frozen BK177.out 2
              have hfz64_3 := blk_frozen BK177.out 3
              have hfz64_4 := blk_frozen BK177.out 4
              have hnb65 := NB170_178.out
              have hnc65 := NB178_170.out
              have hnb66 := NB170_179.out
              have hnc66 := NB179_170.out
              have hcz67_0 : wc.cell? ⟨gb170, 0, none⟩ = some (.int .i64 a3_0) := (blk_cell BK170.out 0).trans rfl
              have hcz67_1 : wc.cell? ⟨gb170, 1, none⟩ = some (.int .u64 a3_1) := (blk_cell BK170.out 1).trans rfl
              have hcz67_2 : wc.cell? ⟨gb170, 2, none⟩ = some (.int .u64 a3_2) := (blk_cell BK170.out 2).trans rfl
              have hcz67_3 : wc.cell? ⟨gb170, 3, none⟩ = some (.int .i64 a3_3) := (blk_cell BK170.out 3).trans rfl
              have hfz67_0 := blk_frozen BK170.out 0
              have hfz67_1 := blk_frozen BK170.out 1
              have hfz67_2 := blk_frozen BK170.out 2
              have hfz67_3 := blk_frozen BK170.out 3
              go_wp2_with (first | ((with_reducible refine gate_callee (f := 13) rfl ?_); refine goesL_ (some 54) rfl rfl Try.func13 (by kernel_rfl) rfl #[.agg #[.int .i64 t172, .int .i64 t173, .int .i64 t174, .int .i64 t175, .int .i64 t176], .agg #[.int .i64 a3_0, .int .u64 a3_1, .int .u64 a3_2, .int .i64 a3_3]] rfl (by (try simp only [List.map_toArray, List.map_cons, List.map_nil]); first | done | rfl | (simp only [List.length_drop, List.length_take]; rfl)) ?_; (with_reducible refine (conf_IsOp.calls kj7 t172 t173 t174 t175 t176 a3_0 a3_1 a3_2 a3_3 t183 _ A56.out).mono ?_); rintro e w68 ⟨rfl, hb⟩; refine ⟨_, rfl, ?_⟩; have n0_ := Aside0.mk (blk_below (g := gb170) (o := .cells #[.int .i64 a3_0, .int .u64 a3_1, .int .u64 a3_2, .int .i64 a3_3] 32 (0, 0)) (by (with_reducible repeat (first | refine blk_drewN ?_ _ | refine blk_drew ?_ | refine blk_alloc ?_ _)); exact BK170.out) hb); have n1_ := Aside0.mk (blk_below (g := gb177) (o := .cells #[.int .i64 t172, .int .i64 t173, .int .i64 t174, .int .i64 t175, .int .i64 t176] 25 (0, 0)) (by (with_reducible repeat (first | refine blk_drewN ?_ _ | refine blk_drew ?_ | refine blk_alloc ?_ _)); exact BK177.out) hb); have n2_ := Aside0.mk (blk_below (g := gb178) (o := .cells #[.int .i64 2, .int .i64 (wrap64 (1 + (wrap64 (Int.tmod (IntKind.u64.wrap (a0)) 8388607)))), .int .i64 (wrap64 (1 + (wrap64 (Int.tmod (IntKind.u64.wrap (a1)) 64)))), .int .i64 1, .int .i64 2] 25 (0, 0)) (by (with_reducible repeat (first | refine blk_drewN ?_ _ | refine blk_drew ?_ | refine blk_alloc ?_ _)); exact BK178.out) hb); have n3_ := Aside0.mk (blk_below (g := gb179) (o := .cells #[.int .i64 3, .int .i64 (wrap64 (1 + (wrap64 (Int.tmod (IntKind.u64.wrap (a0)) 8388607)))), .int .i64 0, .int .i64 (wrap64 (1 + (wrap64 (Int.tmod (IntKind.u64.wrap (a2)) 16)))), .int .i64 2] 25 (0, 0)) (by (with_reducible repeat (first | refine blk_drewN ?_ _ | refine blk_drew ?_ | refine blk_alloc ?_ _)); exact BK179.out) hb); have n4_ := Aside0.mk (below_step (by repeat (first | (with_reducible first | exact HB.out | apply below_alloc | apply pw_below_drewN | apply below_drew1 | refine below_set ?_ GE170.out | refine below_set ?_ GE177.out | refine below_set ?_ GE178.out | refine below_set ?_ GE179.out) | exact HB.out)) hb); clear BK170; clear BK177; clear BK178; clear BK179; clear HB; have BK170 := n0_; have BK177 := n1_; have BK178 := n2_; have BK179 := n3_; have HB := n4_; clear n0_ n1_ n2_ n3_ n4_; (try clear hb); (try clear hb2); (try clear hk); (try clear hi); have hnb69 := NB178_179.out; have hnc69 := NB179_178.out; have hcz70_0 : w68.cell? ⟨gb178, 0, none⟩ = some (.int .i64 2) := (blk_cell BK178.out 0).trans rfl; have hcz70_1 : w68.cell? ⟨gb178, 1, none⟩ = some (.int .i64 (wrap64 (1 + (wrap64 (Int.tmod (IntKind.u64.wrap (a0)) 8388607))))) := (blk_cell BK178.out 1).trans rfl; have hcz70_2 : w68.cell? ⟨gb178, 2, none⟩ = some (.int .i64 (wrap64 (1 + (wrap64 (Int.tmod (IntKind.u64.wrap (a1)) 64))))) := (blk_cell BK178.out 2).trans rfl; have hcz70_3 : w68.cell? ⟨gb178, 3, none⟩ = some (.int .i64 1) := (blk_cell BK178.out 3).trans rfl; have hcz70_4 : w68.cell? ⟨gb178, 4, none⟩ = some (.int .i64 2) := (blk_cell BK178.out 4).trans rfl; have hfz70_0 := blk_frozen BK178.out 0; have hfz70_1 := blk_frozen BK178.out 1; have hfz70_2 := blk_frozen BK178.out 2; have hfz70_3 := blk_frozen BK178.out 3; have hfz70_4 := blk_frozen BK178.out 4; have hcz71_0 : w68.cell? ⟨gb170, 0, none⟩ = some (.int .i64 a3_0) := (blk_cell BK170.out 0).trans rfl; have hcz71_1 : w68.cell? ⟨gb170, 1, none⟩ = some (.int .u64 a3_1) := (blk_cell BK170.out 1).trans rfl; have hcz71_2 : w68.cell? ⟨gb170, 2, none⟩ = some (.int .u64 a3_2) := (blk_cell BK170.out 2).trans rfl; have hcz71_3 : w68.cell? ⟨gb170, 3, none⟩ = some (.int .i64 a3_3) := (blk_cell BK170.out 3).trans rfl; have hfz71_0 := blk_frozen BK170.out 0; have hfz71_1 := blk_frozen BK170.out 1; have hfz71_2 := blk_frozen BK170.out 2; have hfz71_3 := blk_frozen BK170.out 3) | ((with_reducible refine gate_callee (f := 13) rfl ?_); refine goesL_ (some 57) rfl rfl Try.func13 (by kernel_rfl) rfl #[.agg #[.int .i64 2, .int .i64 (wrap64 (1 + (wrap64 (Int.tmod (IntKind.u64.wrap (a0)) 8388607)))), .int .i64 (wrap64 (1 + (wrap64 (Int.tmod (IntKind.u64.wrap (a1)) 64)))), .int .i64 1, .int .i64 2], .agg #[.int .i64 a3_0, .int .u64 a3_1, .int .u64 a3_2, .int .i64 a3_3]] rfl (by (try simp only [List.map_toArray, List.map_cons, List.map_nil]); first | done | rfl | (simp only [List.length_drop, List.length_take]; rfl)) ?_; (with_reducible refine (conf_IsOp.calls kj7 2 (wrap64 (1 + (wrap64 (Int.tmod (IntKind.u64.wrap (a0)) 8388607)))) (wrap64 (1 + (wrap64 (Int.tmod (IntKind.u64.wrap (a1)) 64)))) 1 2 a3_0 a3_1 a3_2 a3_3 t184 _ A57.out).mono ?_); rintro e w72 ⟨rfl, hb⟩; refine ⟨_, rfl, ?_⟩; have n0_ := Aside0.mk (blk_below (g := gb170) (o := .cells #[.int .i64 a3_0, .int .u64 a3_1, .int .u64 a3_2, .int .i64 a3_3] 32 (0, 0)) (by (with_reducible repeat (first | refine blk_drewN ?_ _ | refine blk_drew ?_ | refine blk_alloc ?_ _)); exact BK170.out) hb); have n1_ := Aside0.mk (blk_below (g := gb177) (o := .cells #[.int .i64 t172, .int .i64 t173, .int .i64 t174, .int .i64 t175, .int .i64 t176] 25 (0, 0)) (by (with_reducible repeat (first | refine blk_drewN ?_ _ | refine blk_drew ?_ | refine blk_alloc ?_ _)); exact BK177.out) hb); have n2_ := Aside0.mk (blk_below (g := gb178) (o := .cells #[.int .i64 2, .int .i64 (wrap64 (1 + (wrap64 (Int.tmod (IntKind.u64.wrap (a0)) 8388607)))), .int .i64 (wrap64 (1 + (wrap64 (Int.tmod (IntKind.u64.wrap (a1)) 64)))), .int .i64 1, .int .i64 2] 25 (0, 0)) (by (with_reducible repeat (first | refine blk_drewN ?_ _ | refine blk_drew ?_ | refine blk_alloc ?_ _)); exact BK178.out) hb); have n3_ := Aside0.mk (blk_below (g := gb179) (o := .cells #[.int .i64 3, .int .i64 (wrap64 (1 + (wrap64 (Int.tmod (IntKind.u64.wrap (a0)) 8388607)))), .int .i64 0, .int .i64 (wrap64 (1 + (wrap64 (Int.tmod (IntKind.u64.wrap (a2)) 16)))), .int .i64 2] 25 (0, 0)) (by (with_reducible repeat (first | refine blk_drewN ?_ _ | refine blk_drew ?_ | refine blk_alloc ?_ _)); exact BK179.out) hb); have n4_ := Aside0.mk (below_step (by repeat (first | (with_reducible first | exact HB.out | apply below_alloc | apply pw_below_drewN | apply below_drew1 | refine below_set ?_ GE170.out | refine below_set ?_ GE177.out | refine below_set ?_ GE178.out | refine below_set ?_ GE179.out) | exact HB.out)) hb); clear BK170; clear BK177; clear BK178; clear BK179; clear HB; have BK170 := n0_; have BK177 := n1_; have BK178 := n2_; have BK179 := n3_; have HB := n4_; clear n0_ n1_ n2_ n3_ n4_; (try clear hb); (try clear hb2); (try clear hk); (try clear hi); have hcz73_0 : w72.cell? ⟨gb170, 0, none⟩ = some (.int .i64 a3_0) := (blk_cell BK170.out 0).trans rfl; have hcz73_1 : w72.cell? ⟨gb170, 1, none⟩ = some (.int .u64 a3_1) := (blk_cell BK170.out 1).trans rfl; have hcz73_2 : w72.cell? ⟨gb170, 2, none⟩ = some (.int .u64 a3_2) := (blk_cell BK170.out 2).trans rfl; have hcz73_3 : w72.cell? ⟨gb170, 3, none⟩ = some (.int .i64 a3_3) := (blk_cell BK170.out 3).trans rfl; have hfz73_0 := blk_frozen BK170.out 0; have hfz73_1 := blk_frozen BK170.out 1; have hfz73_2 := blk_frozen BK170.out 2; have hfz73_3 := blk_frozen BK170.out 3; have hcz74_0 : w72.cell? ⟨gb179, 0, none⟩ = some (.int .i64 3) := (blk_cell BK179.out 0).trans rfl; have hcz74_1 : w72.cell? ⟨gb179, 1, none⟩ = some (.int .i64 (wrap64 (1 + (wrap64 (Int.tmod (IntKind.u64.wrap (a0)) 8388607))))) := (blk_cell BK179.out 1).trans rfl; have hcz74_2 : w72.cell? ⟨gb179, 2, none⟩ = some (.int .i64 0) := (blk_cell BK179.out 2).trans rfl; have hcz74_3 : w72.cell? ⟨gb179, 3, none⟩ = some (.int .i64 (wrap64 (1 + (wrap64 (Int.tmod (IntKind.u64.wrap (a2)) 16))))) := (blk_cell BK179.out 3).trans rfl; have hcz74_4 : w72.cell? ⟨gb179, 4, none⟩ = some (.int .i64 2) := (blk_cell BK179.out 4).trans rfl; have hfz74_0 := blk_frozen BK179.out 0; have hfz74_1 := blk_frozen BK179.out 1; have hfz74_2 := blk_frozen BK179.out 2; have hfz74_3 := blk_frozen BK179.out 3; have hfz74_4 := blk_frozen BK179.out 4) | (go_at_call 13; (with_reducible refine (conf_IsOp.calls kj7 3 (wrap64 (1 + (wrap64 (Int.tmod (IntKind.u64.wrap (a0)) 8388607)))) 0 (wrap64 (1 + (wrap64 (Int.tmod (IntKind.u64.wrap (a2)) 16)))) 2 a3_0 a3_1 a3_2 a3_3 t185 _ A60.out).mono ?_); rintro e w75 ⟨rfl, hb⟩; have n0_ := Aside0.mk (blk_below (g := gb170) (o := .cells #[.int .i64 a3_0, .int .u64 a3_1, .int .u64 a3_2, .int .i64 a3_3] 32 (0, 0)) (by (with_reducible repeat (first | refine blk_drewN ?_ _ | refine blk_drew ?_ | refine blk_alloc ?_ _)); exact BK170.out) hb); have n1_ := Aside0.mk (blk_below (g := gb177) (o := .cells #[.int .i64 t172, .int .i64 t173, .int .i64 t174, .int .i64 t175, .int .i64 t176] 25 (0, 0)) (by (with_reducible repeat (first | refine blk_drewN ?_ _ | refine blk_drew ?_ | refine blk_alloc ?_ _)); exact BK177.out) hb); have n2_ := Aside0.mk (blk_below (g := gb178) (o := .cells #[.int .i64 2, .int .i64 (wrap64 (1 + (wrap64 (Int.tmod (IntKind.u64.wrap (a0)) 8388607)))), .int .i64 (wrap64 (1 + (wrap64 (Int.tmod (IntKind.u64.wrap (a1)) 64)))), .int .i64 1, .int .i64 2] 25 (0, 0)) (by (with_reducible repeat (first | refine blk_drewN ?_ _ | refine blk_drew ?_ | refine blk_alloc ?_ _)); exact BK178.out) hb); have n3_ := Aside0.mk (blk_below (g := gb179) (o := .cells #[.int .i64 3, .int .i64 (wrap64 (1 + (wrap64 (Int.tmod (IntKind.u64.wrap (a0)) 8388607)))), .int .i64 0, .int .i64 (wrap64 (1 + (wrap64 (Int.tmod (IntKind.u64.wrap (a2)) 16)))), .int .i64 2] 25 (0, 0)) (by (with_reducible repeat (first | refine blk_drewN ?_ _ | refine blk_drew ?_ | refine blk_alloc ?_ _)); exact BK179.out) hb); have n4_ := Aside0.mk (below_step (by repeat (first | (with_reducible first | exact HB.out | apply below_alloc | apply pw_below_drewN | apply below_drew1 | refine below_set ?_ GE170.out | refine below_set ?_ GE177.out | refine below_set ?_ GE178.out | refine below_set ?_ GE179.out) | exact HB.out)) hb); clear BK170; clear BK177; clear BK178; clear BK179; clear HB; have BK170 := n0_; have BK177 := n1_; have BK178 := n2_; have BK179 := n3_; have HB := n4_; clear n0_ n1_ n2_ n3_ n4_; (try clear hb); (try clear hb2); (try clear hk); (try clear hi)))
              go_ret
              exact ⟨by first | rfl | (rw [E.out]; done) | (simp [errW_none, errW_some] <;> rfl) | (simp [*, errW_none, errW_some] <;> rfl), by repeat (first | (with_reducible first | exact HB.out | apply below_alloc | apply pw_below_drewN | apply below_drew1 | refine below_set ?_ GE170.out | refine below_set ?_ GE177.out | refine below_set ?_ GE178.out | refine below_set ?_ GE179.out) | exact HB.out)⟩
            · rw [if_neg c59] at H
              have c59b0 : (t183 == t184) = false := beq_eq_false_iff_ne.mpr c59
              have c59b1 : (t183 != t184) = true := bne_iff_ne.mpr c59
              exact absurd ((Option.some.inj H).trans HR.out) (by decide)
          · rw [if_neg c58] at H
            have c58b0 : (a3_0 == 8) = false := beq_eq_false_iff_ne.mpr c58
            have c58b1 : (a3_0 != 8) = true := bne_iff_ne.mpr c58
            have HC89 := Aside0.mk H
            clear H
            have hnb90 := NB177_170.out
            have hnc90 := NB170_177.out
            have hnb91 := NB177_178.out
            have hnc91 := NB178_177.out
            have hnb92 := NB177_179.out
            have hnc92 := NB179_177.out
            have hcz93_0 : wc.cell? ⟨gb177, 0, none⟩ = some (.int .i64 t172) := (blk_cell BK177.out 0).trans rfl
            have hcz93_1 : wc.cell? ⟨gb177, 1, none⟩ = some (.int .i64 t173) := (blk_cell BK177.out 1).trans rfl
            have hcz93_2 : wc.cell? ⟨gb177, 2, none⟩ = some (.int .i64 t174) := (blk_cell BK177.out 2).trans rfl
            have hcz93_3 : wc.cell? ⟨gb177, 3, none⟩ = some (.int .i64 t175) := (blk_cell BK177.out 3).trans rfl
            have hcz93_4 : wc.cell? ⟨gb177, 4, none⟩ = some (.int .i64 t176) := (blk_cell BK177.out 4).trans rfl
            have hfz93_0 := blk_frozen BK177.out 0
            have hfz93_1 := blk_frozen BK177.out 1
            have hfz93_2 := blk_frozen BK177.out 2
            have hfz93_3 := blk_frozen BK177.out 3
            have hfz93_4 := blk_frozen BK177.out 4
            have hnb94 := NB170_178.out
            have hnc94 := NB178_170.out
            have hnb95 := NB170_179.out
            have hnc95 := NB179_170.out
            have hcz96_0 : wc.cell? ⟨gb170, 0, none⟩ = some (.int .i64 a3_0) := (blk_cell BK170.out 0).trans rfl
            have hcz96_1 : wc.cell? ⟨gb170, 1, none⟩ = some (.int .u64 a3_1) := (blk_cell BK170.out 1).trans rfl
            have hcz96_2 : wc.cell? ⟨gb170, 2, none⟩ = some (.int .u64 a3_2) := (blk_cell BK170.out 2).trans rfl
            have hcz96_3 : wc.cell? ⟨gb170, 3, none⟩ = some (.int .i64 a3_3) := (blk_cell BK170.out 3).trans rfl
            have hfz96_0 := blk_frozen BK170.out 0
            have hfz96_1 := blk_frozen BK170.out 1
            have hfz96_2 := blk_frozen BK170.out 2
            have hfz96_3 := blk_frozen BK170.out 3
            go_upto_region 13 with (first | ((with_reducible refine gate_callee (f := 13) rfl ?_); refine goesL_ (some 54) rfl rfl Try.func13 (by kernel_rfl) rfl #[.agg #[.int .i64 t172, .int .i64 t173, .int .i64 t174, .int .i64 t175, .int .i64 t176], .agg #[.int .i64 a3_0, .int .u64 a3_1, .int .u64 a3_2, .int .i64 a3_3]] rfl (by (try simp only [List.map_toArray, List.map_cons, List.map_nil]); first | done | rfl | (simp only [List.length_drop, List.length_take]; rfl)) ?_; (with_reducible refine (conf_IsOp.calls kj7 t172 t173 t174 t175 t176 a3_0 a3_1 a3_2 a3_3 t183 _ A56.out).mono ?_); rintro e w97 ⟨rfl, hb⟩; refine ⟨_, rfl, ?_⟩; have n0_ := Aside0.mk (blk_below (g := gb170) (o := .cells #[.int .i64 a3_0, .int .u64 a3_1, .int .u64 a3_2, .int .i64 a3_3] 32 (0, 0)) (by (with_reducible repeat (first | refine blk_drewN ?_ _ | refine blk_drew ?_ | refine blk_alloc ?_ _)); exact BK170.out) hb); have n1_ := Aside0.mk (blk_below (g := gb177) (o := .cells #[.int .i64 t172, .int .i64 t173, .int .i64 t174, .int .i64 t175, .int .i64 t176] 25 (0, 0)) (by (with_reducible repeat (first | refine blk_drewN ?_ _ | refine blk_drew ?_ | refine blk_alloc ?_ _)); exact BK177.out) hb); have n2_ := Aside0.mk (blk_below (g := gb178) (o := .cells #[.int .i64 2, .int .i64 (wrap64 (1 + (wrap64 (Int.tmod (IntKind.u64.wrap (a0)) 8388607)))), .int .i64 (wrap64 (1 + (wrap64 (Int.tmod (IntKind.u64.wrap (a1)) 64)))), .int .i64 1, .int .i64 2] 25 (0, 0)) (by (with_reducible repeat (first | refine blk_drewN ?_ _ | refine blk_drew ?_ | refine blk_alloc ?_ _)); exact BK178.out) hb); have n3_ := Aside0.mk (blk_below (g := gb179) (o := .cells #[.int .i64 3, .int .i64 (wrap64 (1 + (wrap64 (Int.tmod (IntKind.u64.wrap (a0)) 8388607)))), .int .i64 0, .int .i64 (wrap64 (1 + (wrap64 (Int.tmod (IntKind.u64.wrap (a2)) 16)))), .int .i64 2] 25 (0, 0)) (by (with_reducible repeat (first | refine blk_drewN ?_ _ | refine blk_drew ?_ | refine blk_alloc ?_ _)); exact BK179.out) hb); have n4_ := Aside0.mk (below_step (by repeat (first | (with_reducible first | exact HB.out | apply below_alloc | apply pw_below_drewN | apply below_drew1 | refine below_set ?_ GE170.out | refine below_set ?_ GE177.out | refine below_set ?_ GE178.out | refine below_set ?_ GE179.out) | exact HB.out)) hb); clear BK170; clear BK177; clear BK178; clear BK179; clear HB; have BK170 := n0_; have BK177 := n1_; have BK178 := n2_; have BK179 := n3_; have HB := n4_; clear n0_ n1_ n2_ n3_ n4_; (try clear hb); (try clear hb2); (try clear hk); (try clear hi); have hnb98 := NB178_179.out; have hnc98 := NB179_178.out; have hcz99_0 : w97.cell? ⟨gb178, 0, none⟩ = some (.int .i64 2) := (blk_cell BK178.out 0).trans rfl; have hcz99_1 : w97.cell? ⟨gb178, 1, none⟩ = some (.int .i64 (wrap64 (1 + (wrap64 (Int.tmod (IntKind.u64.wrap (a0)) 8388607))))) := (blk_cell BK178.out 1).trans rfl; have hcz99_2 : w97.cell? ⟨gb178, 2, none⟩ = some (.int .i64 (wrap64 (1 + (wrap64 (Int.tmod (IntKind.u64.wrap (a1)) 64))))) := (blk_cell BK178.out 2).trans rfl; have hcz99_3 : w97.cell? ⟨gb178, 3, none⟩ = some (.int .i64 1) := (blk_cell BK178.out 3).trans rfl; have hcz99_4 : w97.cell? ⟨gb178, 4, none⟩ = some (.int .i64 2) := (blk_cell BK178.out 4).trans rfl; have hfz99_0 := blk_frozen BK178.out 0; have hfz99_1 := blk_frozen BK178.out 1; have hfz99_2 := blk_frozen BK178.out 2; have hfz99_3 := blk_frozen BK178.out 3; have hfz99_4 := blk_frozen BK178.out 4; have hcz100_0 : w97.cell? ⟨gb170, 0, none⟩ = some (.int .i64 a3_0) := (blk_cell BK170.out 0).trans rfl; have hcz100_1 : w97.cell? ⟨gb170, 1, none⟩ = some (.int .u64 a3_1) := (blk_cell BK170.out 1).trans rfl; have hcz100_2 : w97.cell? ⟨gb170, 2, none⟩ = some (.int .u64 a3_2) := (blk_cell BK170.out 2).trans rfl; have hcz100_3 : w97.cell? ⟨gb170, 3, none⟩ = some (.int .i64 a3_3) := (blk_cell BK170.out 3).trans rfl; have hfz100_0 := blk_frozen BK170.out 0; have hfz100_1 := blk_frozen BK170.out 1; have hfz100_2 := blk_frozen BK170.out 2; have hfz100_3 := blk_frozen BK170.out 3) | ((with_reducible refine gate_callee (f := 13) rfl ?_); refine goesL_ (some 57) rfl rfl Try.func13 (by kernel_rfl) rfl #[.agg #[.int .i64 2, .int .i64 (wrap64 (1 + (wrap64 (Int.tmod (IntKind.u64.wrap (a0)) 8388607)))), .int .i64 (wrap64 (1 + (wrap64 (Int.tmod (IntKind.u64.wrap (a1)) 64)))), .int .i64 1, .int .i64 2], .agg #[.int .i64 a3_0, .int .u64 a3_1, .int .u64 a3_2, .int .i64 a3_3]] rfl (by (try simp only [List.map_toArray, List.map_cons, List.map_nil]); first | done | rfl | (simp only [List.length_drop, List.length_take]; rfl)) ?_; (with_reducible refine (conf_IsOp.calls kj7 2 (wrap64 (1 + (wrap64 (Int.tmod (IntKind.u64.wrap (a0)) 8388607)))) (wrap64 (1 + (wrap64 (Int.tmod (IntKind.u64.wrap (a1)) 64)))) 1 2 a3_0 a3_1 a3_2 a3_3 t184 _ A57.out).mono ?_); rintro e w101 ⟨rfl, hb⟩; refine ⟨_, rfl, ?_⟩; have n0_ := Aside0.mk (blk_below (g := gb170) (o := .cells #[.int .i64 a3_0, .int .u64 a3_1, .int .u64 a3_2, .int .i64 a3_3] 32 (0, 0)) (by (with_reducible repeat (first | refine blk_drewN ?_ _ | refine blk_drew ?_ | refine blk_alloc ?_ _)); exact BK170.out) hb); have n1_ := Aside0.mk (blk_below (g := gb177) (o := .cells #[.int .i64 t172, .int .i64 t173, .int .i64 t174, .int .i64 t175, .int .i64 t176] 25 (0, 0)) (by (with_reducible repeat (first | refine blk_drewN ?_ _ | refine blk_drew ?_ | refine blk_alloc ?_ _)); exact BK177.out) hb); have n2_ := Aside0.mk (blk_below (g := gb178) (o := .cells #[.int .i64 2, .int .i64 (wrap64 (1 + (wrap64 (Int.tmod (IntKind.u64.wrap (a0)) 8388607)))), .int .i64 (wrap64 (1 + (wrap64 (Int.tmod (IntKind.u64.wrap (a1)) 64)))), .int .i64 1, .int .i64 2] 25 (0, 0)) (by (with_reducible repeat (first | refine blk_drewN ?_ _ | refine blk_drew ?_ | refine blk_alloc ?_ _)); exact BK178.out) hb); have n3_ := Aside0.mk (blk_below (g := gb179) (o := .cells #[.int .i64 3, .int .i64 (wrap64 (1 + (wrap64 (Int.tmod (IntKind.u64.wrap (a0)) 8388607)))), .int .i64 0, .int .i64 (wrap64 (1 + (wrap64 (Int.tmod (IntKind.u64.wrap (a2)) 16)))), .int .i64 2] 25 (0, 0)) (by (with_reducible repeat (first | refine blk_drewN ?_ _ | refine blk_drew ?_ | refine blk_alloc ?_ _)); exact BK179.out) hb); have n4_ := Aside0.mk (below_step (by repeat (first | (with_reducible first | exact HB.out | apply below_alloc | apply pw_below_drewN | apply below_drew1 | refine below_set ?_ GE170.out | refine below_set ?_ GE177.out | refine below_set ?_ GE178.out | refine below_set ?_ GE179.out) | exact HB.out)) hb); clear BK170; clear BK177; clear BK178; clear BK179; clear HB; have BK170 := n0_; have BK177 := n1_; have BK178 := n2_; have BK179 := n3_; have HB := n4_; clear n0_ n1_ n2_ n3_ n4_; (try clear hb); (try clear hb2); (try clear hk); (try clear hi); have hcz102_0 : w101.cell? ⟨gb170, 0, none⟩ = some (.int .i64 a3_0) := (blk_cell BK170.out 0).trans rfl; have hcz102_1 : w101.cell? ⟨gb170, 1, none⟩ = some (.int .u64 a3_1) := (blk_cell BK170.out 1).trans rfl; have hcz102_2 : w101.cell? ⟨gb170, 2, none⟩ = some (.int .u64 a3_2) := (blk_cell BK170.out 2).trans rfl; have hcz102_3 : w101.cell? ⟨gb170, 3, none⟩ = some (.int .i64 a3_3) := (blk_cell BK170.out 3).trans rfl; have hfz102_0 := blk_frozen BK170.out 0; have hfz102_1 := blk_frozen BK170.out 1; have hfz102_2 := blk_frozen BK170.out 2; have hfz102_3 := blk_frozen BK170.out 3))
            (try simp only [Act.put, List.setIfInBounds_toArray, List.set_cons_zero, List.set_cons_succ])
            go_cut [76] (fun v76 wc => ∃ (kq : Nat) (x76_88 : Bool), v76 = .bool x76_88 ∧ Aside0 (revenantlaw03_ConfOps.j1 kq t183 x76_88 a3_0 a3_1 a3_2 a3_3 3 (wrap64 (1 + (wrap64 (Int.tmod (IntKind.u64.wrap (a0)) 8388607)))) 0 (wrap64 (1 + (wrap64 (Int.tmod (IntKind.u64.wrap (a2)) 16)))) 2 = some r) ∧ Aside0 (kq ≤ kj7) ∧ Aside0 (wc.heap[gb170]? = some (.cells #[.int .i64 a3_0, .int .u64 a3_1, .int .u64 a3_2, .int .i64 a3_3] 32 (0, 0))) ∧ Aside0 (wc.heap[gb177]? = some (.cells #[.int .i64 t172, .int .i64 t173, .int .i64 t174, .int .i64 t175, .int .i64 t176] 25 (0, 0))) ∧ Aside0 (wc.heap[gb178]? = some (.cells #[.int .i64 2, .int .i64 (wrap64 (1 + (wrap64 (Int.tmod (IntKind.u64.wrap (a0)) 8388607)))), .int .i64 (wrap64 (1 + (wrap64 (Int.tmod (IntKind.u64.wrap (a1)) 64)))), .int .i64 1, .int .i64 2] 25 (0, 0))) ∧ Aside0 (wc.heap[gb179]? = some (.cells #[.int .i64 3, .int .i64 (wrap64 (1 + (wrap64 (Int.tmod (IntKind.u64.wrap (a0)) 8388607)))), .int .i64 0, .int .i64 (wrap64 (1 + (wrap64 (Int.tmod (IntKind.u64.wrap (a2)) 16)))), .int .i64 2] 25 (0, 0))) ∧ Aside0 (Below w.heap.size w wc))
            case first =>
              have H := HC89.out
              clear HC89
              by_cases c103 : t183 = 8
              · rw [if_pos c103] at H
                have c103b0 : (t183 == 8) = true := beq_iff_eq.mpr c103
                have c103b1 : (t183 != 8) = false := bne_eq_false_iff_eq.mpr c103
                clear c103
                (first | rw [c103b0] | (simp only [i64_w, i32_w]; rw [c103b0]) | skip)
                have H' := Aside0.mk H
                clear H
                go_wp2
                go_meet
                case rel => exact ⟨_, (false), (by first | rfl | (simp; done) | (simp [*]; done)), H', ⟨by have := HJ7.out; first | omega | exact Nat.le_refl _⟩, ⟨by (with_reducible repeat (first | refine blk_drewN ?_ _ | refine blk_drew ?_ | refine blk_alloc ?_ _)); exact BK170.out⟩, ⟨by (with_reducible repeat (first | refine blk_drewN ?_ _ | refine blk_drew ?_ | refine blk_alloc ?_ _)); exact BK177.out⟩, ⟨by (with_reducible repeat (first | refine blk_drewN ?_ _ | refine blk_drew ?_ | refine blk_alloc ?_ _)); exact BK178.out⟩, ⟨by (with_reducible repeat (first | refine blk_drewN ?_ _ | refine blk_drew ?_ | refine blk_alloc ?_ _)); exact BK179.out⟩, ⟨by repeat (first | (with_reducible first | exact HB.out | apply below_alloc | apply pw_below_drewN | apply below_drew1 | refine below_set ?_ GE170.out | refine below_set ?_ GE177.out | refine below_set ?_ GE178.out | refine below_set ?_ GE179.out) | exact HB.out)⟩⟩
              · rw [if_neg c103] at H
                have c103b0 : (t183 == 8) = false := beq_eq_false_iff_ne.mpr c103
                have c103b1 : (t183 != 8) = true := bne_iff_ne.mpr c103
                (first | rw [c103b0] | (simp only [i64_w, i32_w]; rw [c103b0]) | skip)
                have H' := Aside0.mk H
                clear H
                go_wp2
                go_meet
                case rel => exact ⟨_, ((t184 != 8)), (by first | rfl | (simp; done) | (simp [*]; done)), H', ⟨by have := HJ7.out; first | omega | exact Nat.le_refl _⟩, ⟨by (with_reducible repeat (first | refine blk_drewN ?_ _ | refine blk_drew ?_ | refine blk_alloc ?_ _)); exact BK170.out⟩, ⟨by (with_reducible repeat (first | refine blk_drewN ?_ _ | refine blk_drew ?_ | refine blk_alloc ?_ _)); exact BK177.out⟩, ⟨by (with_reducible repeat (first | refine blk_drewN ?_ _ | refine blk_drew ?_ | refine blk_alloc ?_ _)); exact BK178.out⟩, ⟨by (with_reducible repeat (first | refine blk_drewN ?_ _ | refine blk_drew ?_ | refine blk_alloc ?_ _)); exact BK179.out⟩, ⟨by repeat (first | (with_reducible first | exact HB.out | apply below_alloc | apply pw_below_drewN | apply below_drew1 | refine below_set ?_ GE170.out | refine below_set ?_ GE177.out | refine below_set ?_ GE178.out | refine below_set ?_ GE179.out) | exact HB.out)⟩⟩
            case rest =>
              clear HC89
              try clear c1
              try clear c2
              try clear p2
              try clear c3
              try clear c4
              try clear c5
              try clear c6
              try clear p6
              try clear c7
              try clear c8
              try clear c9
              try clear c10
              try clear c13
              try clear c16
              try clear c17
              try clear c20
              try clear c21
              try clear c22
              try clear c25
              try clear c25b0
              try clear c25b1
              try clear c27
              try clear c27b0
              try clear c27b1
              try clear c29
              try clear c30
              try clear c31
              try clear c34
              try clear c35
              try clear c38
              try clear c41
              try clear c42
              try clear c43
              try clear c46
              try clear c47
              try clear c50
              try clear c51
              try clear c52
              try clear c55
              try clear c58
              try clear c58b0
              try clear c58b1
              try clear c59
              try clear c59b0
              try clear c59b1
              try clear c61
              try clear c62
              try clear c63
              try clear p64
              try clear c65
              try clear c66
              try clear c69
              try clear c76
              try clear c77
              try clear c78
              try clear c80
              try clear c81
              try clear c84
              try clear c90
              try clear c91
              try clear c92
              try clear c94
              try clear c95
              try clear c98
              try clear c103
              try clear c103b0
              try clear c103b1
              try clear hcz100_0
              try clear hcz100_1
              try clear hcz100_2
              try clear hcz100_3
              try clear hcz102_0
              try clear hcz102_1
              try clear hcz102_2
              try clear hcz102_3
              try clear hcz14_0
              try clear hcz14_1
              try clear hcz14_2
              try clear hcz14_3
              try clear hcz14_4
              try clear hcz18_0
              try clear hcz18_1
              try clear hcz18_2
              try clear hcz18_3
              try clear hcz18_4
              try clear hcz23_0
              try clear hcz23_1
              try clear hcz23_2
              try clear hcz23_3
              try clear hcz23_4
              try clear hcz32_0
              try clear hcz32_1
              try clear hcz32_2
              try clear hcz32_3
              try clear hcz32_4
              try clear hcz36_0
              try clear hcz36_1
              try clear hcz36_2
              try clear hcz36_3
              try clear hcz36_4
              try clear hcz39_0
              try clear hcz39_1
              try clear hcz39_2
              try clear hcz39_3
              try clear hcz39_4
              try clear hcz44_0
              try clear hcz44_1
              try clear hcz44_2
              try clear hcz44_3
              try clear hcz44_4
              try clear hcz48_0
              try clear hcz48_1
              try clear hcz48_2
              try clear hcz48_3
              try clear hcz48_4
              try clear hcz53_0
              try clear hcz53_1
              try clear hcz53_2
              try clear hcz53_3
              try clear hcz53_4
              try clear hcz64_0
              try clear hcz64_1
              try clear hcz64_2
              try clear hcz64_3
              try clear hcz64_4
              try clear hcz67_0
              try clear hcz67_1
              try clear hcz67_2
              try clear hcz67_3
              try clear hcz70_0
              try clear hcz70_1
              try clear hcz70_2
              try clear hcz70_3
              try clear hcz70_4
              try clear hcz71_0
              try clear hcz71_1
              try clear hcz71_2
              try clear hcz71_3
              try clear hcz73_0
              try clear hcz73_1
              try clear hcz73_2
              try clear hcz73_3
              try clear hcz74_0
              try clear hcz74_1
              try clear hcz74_2
              try clear hcz74_3
              try clear hcz74_4
              try clear hcz79_0
              try clear hcz79_1
              try clear hcz79_2
              try clear hcz79_3
              try clear hcz79_4
              try clear hcz82_0
              try clear hcz82_1
              try clear hcz82_2
              try clear hcz82_3
              try clear hcz85_0
              try clear hcz85_1
              try clear hcz85_2
              try clear hcz85_3
              try clear hcz85_4
              try clear hcz86_0
              try clear hcz86_1
              try clear hcz86_2
              try clear hcz86_3
              try clear hcz88_0
              try clear hcz88_1
              try clear hcz88_2
              try clear hcz88_3
              try clear hcz93_0
              try clear hcz93_1
              try clear hcz93_2
              try clear hcz93_3
              try clear hcz93_4
              try clear hcz96_0
              try clear hcz96_1
              try clear hcz96_2
              try clear hcz96_3
              try clear hcz99_0
              try clear hcz99_1
              try clear hcz99_2
              try clear hcz99_3
              try clear hcz99_4
              try clear hfz100_0
              try clear hfz100_1
              try clear hfz100_2
              try clear hfz100_3
              try clear hfz102_0
              try clear hfz102_1
              try clear hfz102_2
              try clear hfz102_3
              try clear hfz14_0
              try clear hfz14_1
              try clear hfz14_2
              try clear hfz14_3
              try clear hfz14_4
              try clear hfz18_0
              try clear hfz18_1
              try clear hfz18_2
              try clear hfz18_3
              try clear hfz18_4
              try clear hfz23_0
              try clear hfz23_1
              try clear hfz23_2
              try clear hfz23_3
              try clear hfz23_4
              try clear hfz32_0
              try clear hfz32_1
              try clear hfz32_2
              try clear hfz32_3
              try clear hfz32_4
              try clear hfz36_0
              try clear hfz36_1
              try clear hfz36_2
              try clear hfz36_3
              try clear hfz36_4
              try clear hfz39_0
              try clear hfz39_1
              try clear hfz39_2
              try clear hfz39_3
              try clear hfz39_4
              try clear hfz44_0
              try clear hfz44_1
              try clear hfz44_2
              try clear hfz44_3
              try clear hfz44_4
              try clear hfz48_0
              try clear hfz48_1
              try clear hfz48_2
              try clear hfz48_3
              try clear hfz48_4
              try clear hfz53_0
              try clear hfz53_1
              try clear hfz53_2
              try clear hfz53_3
              try clear hfz53_4
              try clear hfz64_0
              try clear hfz64_1
              try clear hfz64_2
              try clear hfz64_3
              try clear hfz64_4
              try clear hfz67_0
              try clear hfz67_1
              try clear hfz67_2
              try clear hfz67_3
              try clear hfz70_0
              try clear hfz70_1
              try clear hfz70_2
              try clear hfz70_3
              try clear hfz70_4
              try clear hfz71_0
              try clear hfz71_1
              try clear hfz71_2
              try clear hfz71_3
              try clear hfz73_0
              try clear hfz73_1
              try clear hfz73_2
              try clear hfz73_3
              try clear hfz74_0
              try clear hfz74_1
              try clear hfz74_2
              try clear hfz74_3
              try clear hfz74_4
              try clear hfz79_0
              try clear hfz79_1
              try clear hfz79_2
              try clear hfz79_3
              try clear hfz79_4
              try clear hfz82_0
              try clear hfz82_1
              try clear hfz82_2
              try clear hfz82_3
              try clear hfz85_0
              try clear hfz85_1
              try clear hfz85_2
              try clear hfz85_3
              try clear hfz85_4
              try clear hfz86_0
              try clear hfz86_1
              try clear hfz86_2
              try clear hfz86_3
              try clear hfz88_0
              try clear hfz88_1
              try clear hfz88_2
              try clear hfz88_3
              try clear hfz93_0
              try clear hfz93_1
              try clear hfz93_2
              try clear hfz93_3
              try clear hfz93_4
              try clear hfz96_0
              try clear hfz96_1
              try clear hfz96_2
              try clear hfz96_3
              try clear hfz99_0
              try clear hfz99_1
              try clear hfz99_2
              try clear hfz99_3
              try clear hfz99_4
              try clear p2
              try clear p6
              obtain ⟨kq, x76_88, rfl, HA, HJ88, BK170, BK177, BK178, BK179, HB⟩ := hcut
              cases kq with
              | zero => exact absurd HA.out (by simp [revenantlaw03_ConfOps.j1])
              | succ kj88 =>
                have H := HA.out
                clear HA
                simp only [revenantlaw03_ConfOps.j1] at H
                by_cases c104 : x76_88 = true
                · subst c104
                  have H1 : (some false) = some r := by rw [if_pos rfl] at H; exact H
                  clear H
                  have H := H1
                  clear H1
                  exact absurd ((Option.some.inj H).trans HR.out) (by decide)
                · replace c104 := Bool.eq_false_iff.mpr c104
                  subst c104
                  have H1 : (if a3_0 = 1 then ((conf_IsOp.f kj88 3 (wrap64 (1 + (wrap64 (Int.tmod (IntKind.u64.wrap (a0)) 8388607)))) 0 (wrap64 (1 + (wrap64 (Int.tmod (IntKind.u64.wrap (a2)) 16)))) 2 a3_0 a3_1 a3_2 1).bind fun t187 => (if ((t187 == 8) == (t183 == 8)) = true then (if t183 = 0 then ((conf_IsOp.f kj88 3 (wrap64 (1 + (wrap64 (Int.tmod (IntKind.u64.wrap (a0)) 8388607)))) 0 (wrap64 (1 + (wrap64 (Int.tmod (IntKind.u64.wrap (a2)) 16)))) 2 a3_0 a3_1 a3_2 1).bind fun t188 => (some (t188 == 0))) else (some true)) else (some false))) else ((conf_IsOp.f kj88 3 (wrap64 (1 + (wrap64 (Int.tmod (IntKind.u64.wrap (a0)) 8388607)))) 0 (wrap64 (1 + (wrap64 (Int.tmod (IntKind.u64.wrap (a2)) 16)))) 2 a3_0 a3_1 a3_2 a3_3).bind fun t189 => (if ((t189 == 8) == (t183 == 8)) = true then (if t183 = 0 then ((conf_IsOp.f kj88 3 (wrap64 (1 + (wrap64 (Int.tmod (IntKind.u64.wrap (a0)) 8388607)))) 0 (wrap64 (1 + (wrap64 (Int.tmod (IntKind.u64.wrap (a2)) 16)))) 2 a3_0 a3_1 a3_2 a3_3).bind fun t190 => (some (t190 == 0))) else (some true)) else (some false)))) = some r := by rw [if_neg (show ¬ (false = true) by decide)] at H; exact H
                  clear H
                  have H := H1
                  clear H1
                  by_cases c105 : a3_0 = 1
                  · rw [if_pos c105] at H
                    have c105b0 : (a3_0 == 1) = true := beq_iff_eq.mpr c105
                    have c105b1 : (a3_0 != 1) = false := bne_eq_false_iff_eq.mpr c105
                    clear c105
                    replace H := Option.bind_eq_some_iff.mp H
                    obtain ⟨t187, A1060, H⟩ := H
                    replace H : (if ((t187 == 8) == (t183 == 8)) = true then (if t183 = 0 then ((conf_IsOp.f kj88 3 (wrap64 (1 + (wrap64 (Int.tmod (IntKind.u64.wrap (a0)) 8388607)))) 0 (wrap64 (1 + (wrap64 (Int.tmod (IntKind.u64.wrap (a2)) 16)))) 2 a3_0 a3_1 a3_2 1).bind fun t188 => (some (t188 == 0))) else (some true)) else (some false)) = some r := H
                    have A106 := Aside0.mk A1060
                    clear A1060
                    by_cases c107 : ((t187 == 8) == (t183 == 8)) = true
                    · rw [if_pos c107] at H
                      have gc107 := Aside0.mk c107
                      clear c107
                      by_cases c108 : t183 = 0
                      · rw [if_pos c108] at H
                        have c108b0 : (t183 == 0) = true := beq_iff_eq.mpr c108
                        have c108b1 : (t183 != 0) = false := bne_eq_false_iff_eq.mpr c108
                        clear c108
                        have d1 : (t183 == 8) = false := beq_eq_false_iff_ne.mpr (by have := eq_of_beq c108b0; omega)
                        have d2 : (t187 == 8) = false := by have := gc107.out; rw [d1] at this; simpa using this
                        replace H := Option.bind_eq_some_iff.mp H
                        obtain ⟨t188, A1090, H⟩ := H
                        replace H : (some (t188 == 0)) = some r := H
                        have A109 := Aside0.mk A1090
                        clear A1090
                        have E := Aside0.mk (show t187 = t188 from Option.some.inj (A106.out.symm.trans A109.out))
                        obtain rfl := Option.some.inj H
                        have hz0 : wc.cell? ⟨gb179, 0, none⟩ = some (.int .i64 3) := (blk_cell BK179.out 0).trans rfl
                        have hz1 : wc.cell? ⟨gb179, 1, none⟩ = some (.int .i64 (wrap64 (1 + (wrap64 (Int.tmod (IntKind.u64.wrap (a0)) 8388607))))) := (blk_cell BK179.out 1).trans rfl
                        have hz2 : wc.cell? ⟨gb179, 2, none⟩ = some (.int .i64 0) := (blk_cell BK179.out 2).trans rfl
                        have hz3 : wc.cell? ⟨gb179, 3, none⟩ = some (.int .i64 (wrap64 (1 + (wrap64 (Int.tmod (IntKind.u64.wrap (a2)) 16))))) := (blk_cell BK179.out 3).trans rfl
                        have hz4 : wc.cell? ⟨gb179, 4, none⟩ = some (.int .i64 2) := (blk_cell BK179.out 4).trans rfl
                        have hy0 : ∀ o, (wc.alloc o).cell? ⟨gb179, 0, none⟩ = some (.int .i64 3) := fun o => ((below_alloc (Below.refl wc.heap.size wc) o).cell (World.block_lt_of_cell? wc _ hz0)).trans hz0
                        have hy1 : ∀ o, (wc.alloc o).cell? ⟨gb179, 1, none⟩ = some (.int .i64 (wrap64 (1 + (wrap64 (Int.tmod (IntKind.u64.wrap (a0)) 8388607))))) := fun o => ((below_alloc (Below.refl wc.heap.size wc) o).cell (World.block_lt_of_cell? wc _ hz1)).trans hz1
                        have hy2 : ∀ o, (wc.alloc o).cell? ⟨gb179, 2, none⟩ = some (.int .i64 0) := fun o => ((below_alloc (Below.refl wc.heap.size wc) o).cell (World.block_lt_of_cell? wc _ hz2)).trans hz2
                        have hy3 : ∀ o, (wc.alloc o).cell? ⟨gb179, 3, none⟩ = some (.int .i64 (wrap64 (1 + (wrap64 (Int.tmod (IntKind.u64.wrap (a2)) 16))))) := fun o => ((below_alloc (Below.refl wc.heap.size wc) o).cell (World.block_lt_of_cell? wc _ hz3)).trans hz3
                        have hy4 : ∀ o, (wc.alloc o).cell? ⟨gb179, 4, none⟩ = some (.int .i64 2) := fun o => ((below_alloc (Below.refl wc.heap.size wc) o).cell (World.block_lt_of_cell? wc _ hz4)).trans hz4
                        have hc0 : wc.cell? ⟨gb170, 0, none⟩ = some (.int .i64 a3_0) := (blk_cell BK170.out 0).trans rfl
                        have hc1 : wc.cell? ⟨gb170, 1, none⟩ = some (.int .u64 a3_1) := (blk_cell BK170.out 1).trans rfl
                        have hc2 : wc.cell? ⟨gb170, 2, none⟩ = some (.int .u64 a3_2) := (blk_cell BK170.out 2).trans rfl
                        have hc3 : wc.cell? ⟨gb170, 3, none⟩ = some (.int .i64 a3_3) := (blk_cell BK170.out 3).trans rfl
                        have hq0 := blk_frozen BK170.out 0
                        have hq1 := blk_frozen BK170.out 1
                        have hq2 := blk_frozen BK170.out 2
                        have hq3 := blk_frozen BK170.out 3
                        go_wp2_with fail
                        refine (conf_IsOp.calls kj88 3 (wrap64 (1 + (wrap64 (Int.tmod (IntKind.u64.wrap (a0)) 8388607)))) 0 (wrap64 (1 + (wrap64 (Int.tmod (IntKind.u64.wrap (a2)) 16)))) 2 a3_0 a3_1 a3_2 1 t187 _ A106.out).mono ?_
                        rintro e w123 ⟨rfl, hb⟩
                        have HZ := Aside0.mk (below_step (below_alloc HB.out _) hb)
                        have hx0 : w123.cell? ⟨gb179, 0, none⟩ = some (.int .i64 3) := (hb.cell (World.block_lt_of_cell? _ _ (hy0 _))).trans (hy0 _)
                        have hx1 : w123.cell? ⟨gb179, 1, none⟩ = some (.int .i64 (wrap64 (1 + (wrap64 (Int.tmod (IntKind.u64.wrap (a0)) 8388607))))) := (hb.cell (World.block_lt_of_cell? _ _ (hy1 _))).trans (hy1 _)
                        have hx2 : w123.cell? ⟨gb179, 2, none⟩ = some (.int .i64 0) := (hb.cell (World.block_lt_of_cell? _ _ (hy2 _))).trans (hy2 _)
                        have hx3 : w123.cell? ⟨gb179, 3, none⟩ = some (.int .i64 (wrap64 (1 + (wrap64 (Int.tmod (IntKind.u64.wrap (a2)) 16))))) := (hb.cell (World.block_lt_of_cell? _ _ (hy3 _))).trans (hy3 _)
                        have hx4 : w123.cell? ⟨gb179, 4, none⟩ = some (.int .i64 2) := (hb.cell (World.block_lt_of_cell? _ _ (hy4 _))).trans (hy4 _)
                        have hw0 : w123.cell? ⟨wc.heap.size, 0, none⟩ = some (.int .i64 a3_0) := (blk_cell (blk_below (blk_new wc _) hb) 0).trans rfl
                        have hw1 : w123.cell? ⟨wc.heap.size, 1, none⟩ = some (.int .u64 a3_1) := (blk_cell (blk_below (blk_new wc _) hb) 1).trans rfl
                        have hw2 : w123.cell? ⟨wc.heap.size, 2, none⟩ = some (.int .u64 a3_2) := (blk_cell (blk_below (blk_new wc _) hb) 2).trans rfl
                        have hw3 : w123.cell? ⟨wc.heap.size, 3, none⟩ = some (.int .i64 1) := (blk_cell (blk_below (blk_new wc _) hb) 3).trans rfl
                        clear hy0 hz0
                        clear hy1 hz1
                        clear hy2 hz2
                        clear hy3 hz3
                        clear hy4 hz4
                        clear hb
                        go_wp2_with fail
                        refine (conf_IsOp.calls kj88 3 (wrap64 (1 + (wrap64 (Int.tmod (IntKind.u64.wrap (a0)) 8388607)))) 0 (wrap64 (1 + (wrap64 (Int.tmod (IntKind.u64.wrap (a2)) 16)))) 2 a3_0 a3_1 a3_2 1 t188 _ A109.out).mono ?_
                        rintro e w124 ⟨rfl, hb⟩
                        have HY := Aside0.mk (below_step HZ.out hb)
                        clear hb
                        go_wp2_with fail
                        go_ret
                        exact ⟨by first | rfl | (rw [E.out]; done) | (simp; done), HY.out⟩
                      · rw [if_neg c108] at H
                        have c108b0 : (t183 == 0) = false := beq_eq_false_iff_ne.mpr c108
                        have c108b1 : (t183 != 0) = true := bne_iff_ne.mpr c108
                        obtain ⟨q, d1, d2⟩ : ∃ q, (t183 == 8) = q ∧ (t187 == 8) = q := ⟨_, rfl, eq_of_beq gc107.out⟩
                        cases q
                        all_goals
                          obtain rfl := Option.some.inj H
                          have hz0 : wc.cell? ⟨gb179, 0, none⟩ = some (.int .i64 3) := (blk_cell BK179.out 0).trans rfl
                          have hz1 : wc.cell? ⟨gb179, 1, none⟩ = some (.int .i64 (wrap64 (1 + (wrap64 (Int.tmod (IntKind.u64.wrap (a0)) 8388607))))) := (blk_cell BK179.out 1).trans rfl
                          have hz2 : wc.cell? ⟨gb179, 2, none⟩ = some (.int .i64 0) := (blk_cell BK179.out 2).trans rfl
                          have hz3 : wc.cell? ⟨gb179, 3, none⟩ = some (.int .i64 (wrap64 (1 + (wrap64 (Int.tmod (IntKind.u64.wrap (a2)) 16))))) := (blk_cell BK179.out 3).trans rfl
                          have hz4 : wc.cell? ⟨gb179, 4, none⟩ = some (.int .i64 2) := (blk_cell BK179.out 4).trans rfl
                          have hy0 : ∀ o, (wc.alloc o).cell? ⟨gb179, 0, none⟩ = some (.int .i64 3) := fun o => ((below_alloc (Below.refl wc.heap.size wc) o).cell (World.block_lt_of_cell? wc _ hz0)).trans hz0
                          have hy1 : ∀ o, (wc.alloc o).cell? ⟨gb179, 1, none⟩ = some (.int .i64 (wrap64 (1 + (wrap64 (Int.tmod (IntKind.u64.wrap (a0)) 8388607))))) := fun o => ((below_alloc (Below.refl wc.heap.size wc) o).cell (World.block_lt_of_cell? wc _ hz1)).trans hz1
                          have hy2 : ∀ o, (wc.alloc o).cell? ⟨gb179, 2, none⟩ = some (.int .i64 0) := fun o => ((below_alloc (Below.refl wc.heap.size wc) o).cell (World.block_lt_of_cell? wc _ hz2)).trans hz2
                          have hy3 : ∀ o, (wc.alloc o).cell? ⟨gb179, 3, none⟩ = some (.int .i64 (wrap64 (1 + (wrap64 (Int.tmod (IntKind.u64.wrap (a2)) 16))))) := fun o => ((below_alloc (Below.refl wc.heap.size wc) o).cell (World.block_lt_of_cell? wc _ hz3)).trans hz3
                          have hy4 : ∀ o, (wc.alloc o).cell? ⟨gb179, 4, none⟩ = some (.int .i64 2) := fun o => ((below_alloc (Below.refl wc.heap.size wc) o).cell (World.block_lt_of_cell? wc _ hz4)).trans hz4
                          have hc0 : wc.cell? ⟨gb170, 0, none⟩ = some (.int .i64 a3_0) := (blk_cell BK170.out 0).trans rfl
                          have hc1 : wc.cell? ⟨gb170, 1, none⟩ = some (.int .u64 a3_1) := (blk_cell BK170.out 1).trans rfl
                          have hc2 : wc.cell? ⟨gb170, 2, none⟩ = some (.int .u64 a3_2) := (blk_cell BK170.out 2).trans rfl
                          have hc3 : wc.cell? ⟨gb170, 3, none⟩ = some (.int .i64 a3_3) := (blk_cell BK170.out 3).trans rfl
                          have hq0 := blk_frozen BK170.out 0
                          have hq1 := blk_frozen BK170.out 1
                          have hq2 := blk_frozen BK170.out 2
                          have hq3 := blk_frozen BK170.out 3
                          go_wp2_with fail
                          refine (conf_IsOp.calls kj88 3 (wrap64 (1 + (wrap64 (Int.tmod (IntKind.u64.wrap (a0)) 8388607)))) 0 (wrap64 (1 + (wrap64 (Int.tmod (IntKind.u64.wrap (a2)) 16)))) 2 a3_0 a3_1 a3_2 1 t187 _ A106.out).mono ?_
                          rintro e w123 ⟨rfl, hb⟩
                          have HZ := Aside0.mk (below_step (below_alloc HB.out _) hb)
                          clear hy0 hz0
                          clear hy1 hz1
                          clear hy2 hz2
                          clear hy3 hz3
                          clear hy4 hz4
                          clear hb
                          go_wp2_with fail
                          go_ret
                          exact ⟨by first | rfl | (rw [E.out]; done) | (simp; done), HZ.out⟩
                    · rw [if_neg c107] at H
                      have c107b0 : ((t187 == 8) == (t183 == 8)) = false := by simpa using c107
                      (try (have c107b1 : decide ((t187 == 8) = (t183 == 8)) = false := by simpa using c107))
                      (try (have c107b2 : ((t187 == 8) == (t183 == 8)) = false := by simpa using c107))
                      (try (have c107b3 : ¬ ((t187 == 8) = (t183 == 8)) := by simpa using c107))
                      clear c107
                      exact absurd ((Option.some.inj H).trans HR.out) (by decide)
                  · rw [if_neg c105] at H
                    have c105b0 : (a3_0 == 1) = false := beq_eq_false_iff_ne.mpr c105
                    have c105b1 : (a3_0 != 1) = true := bne_iff_ne.mpr c105
                    replace H := Option.bind_eq_some_iff.mp H
                    obtain ⟨t189, A1550, H⟩ := H
                    replace H : (if ((t189 == 8) == (t183 == 8)) = true then (if t183 = 0 then ((conf_IsOp.f kj88 3 (wrap64 (1 + (wrap64 (Int.tmod (IntKind.u64.wrap (a0)) 8388607)))) 0 (wrap64 (1 + (wrap64 (Int.tmod (IntKind.u64.wrap (a2)) 16)))) 2 a3_0 a3_1 a3_2 a3_3).bind fun t190 => (some (t190 == 0))) else (some true)) else (some false)) = some r := H
                    have A155 := Aside0.mk A1550
                    clear A1550
                    by_cases c156 : ((t189 == 8) == (t183 == 8)) = true
                    · rw [if_pos c156] at H
                      have gc156 := Aside0.mk c156
                      clear c156
                      by_cases c157 : t183 = 0
                      · rw [if_pos c157] at H
                        have c157b0 : (t183 == 0) = true := beq_iff_eq.mpr c157
                        have c157b1 : (t183 != 0) = false := bne_eq_false_iff_eq.mpr c157
                        clear c157
                        have d1 : (t183 == 8) = false := beq_eq_false_iff_ne.mpr (by have := eq_of_beq c157b0; omega)
                        have d2 : (t189 == 8) = false := by have := gc156.out; rw [d1] at this; simpa using this
                        replace H := Option.bind_eq_some_iff.mp H
                        obtain ⟨t190, A1580, H⟩ := H
                        replace H : (some (t190 == 0)) = some r := H
                        have A158 := Aside0.mk A1580
                        clear A1580
                        have E := Aside0.mk (show t189 = t190 from Option.some.inj (A155.out.symm.trans A158.out))
                        obtain rfl := Option.some.inj H
                        have hz0 : wc.cell? ⟨gb179, 0, none⟩ = some (.int .i64 3) := (blk_cell BK179.out 0).trans rfl
                        have hz1 : wc.cell? ⟨gb179, 1, none⟩ = some (.int .i64 (wrap64 (1 + (wrap64 (Int.tmod (IntKind.u64.wrap (a0)) 8388607))))) := (blk_cell BK179.out 1).trans rfl
                        have hz2 : wc.cell? ⟨gb179, 2, none⟩ = some (.int .i64 0) := (blk_cell BK179.out 2).trans rfl
                        have hz3 : wc.cell? ⟨gb179, 3, none⟩ = some (.int .i64 (wrap64 (1 + (wrap64 (Int.tmod (IntKind.u64.wrap (a2)) 16))))) := (blk_cell BK179.out 3).trans rfl
                        have hz4 : wc.cell? ⟨gb179, 4, none⟩ = some (.int .i64 2) := (blk_cell BK179.out 4).trans rfl
                        have hy0 : ∀ o, (wc.alloc o).cell? ⟨gb179, 0, none⟩ = some (.int .i64 3) := fun o => ((below_alloc (Below.refl wc.heap.size wc) o).cell (World.block_lt_of_cell? wc _ hz0)).trans hz0
                        have hy1 : ∀ o, (wc.alloc o).cell? ⟨gb179, 1, none⟩ = some (.int .i64 (wrap64 (1 + (wrap64 (Int.tmod (IntKind.u64.wrap (a0)) 8388607))))) := fun o => ((below_alloc (Below.refl wc.heap.size wc) o).cell (World.block_lt_of_cell? wc _ hz1)).trans hz1
                        have hy2 : ∀ o, (wc.alloc o).cell? ⟨gb179, 2, none⟩ = some (.int .i64 0) := fun o => ((below_alloc (Below.refl wc.heap.size wc) o).cell (World.block_lt_of_cell? wc _ hz2)).trans hz2
                        have hy3 : ∀ o, (wc.alloc o).cell? ⟨gb179, 3, none⟩ = some (.int .i64 (wrap64 (1 + (wrap64 (Int.tmod (IntKind.u64.wrap (a2)) 16))))) := fun o => ((below_alloc (Below.refl wc.heap.size wc) o).cell (World.block_lt_of_cell? wc _ hz3)).trans hz3
                        have hy4 : ∀ o, (wc.alloc o).cell? ⟨gb179, 4, none⟩ = some (.int .i64 2) := fun o => ((below_alloc (Below.refl wc.heap.size wc) o).cell (World.block_lt_of_cell? wc _ hz4)).trans hz4
                        have hc0 : wc.cell? ⟨gb170, 0, none⟩ = some (.int .i64 a3_0) := (blk_cell BK170.out 0).trans rfl
                        have hc1 : wc.cell? ⟨gb170, 1, none⟩ = some (.int .u64 a3_1) := (blk_cell BK170.out 1).trans rfl
                        have hc2 : wc.cell? ⟨gb170, 2, none⟩ = some (.int .u64 a3_2) := (blk_cell BK170.out 2).trans rfl
                        have hc3 : wc.cell? ⟨gb170, 3, none⟩ = some (.int .i64 a3_3) := (blk_cell BK170.out 3).trans rfl
                        have hq0 := blk_frozen BK170.out 0
                        have hq1 := blk_frozen BK170.out 1
                        have hq2 := blk_frozen BK170.out 2
                        have hq3 := blk_frozen BK170.out 3
                        go_wp2_with fail
                        refine (conf_IsOp.calls kj88 3 (wrap64 (1 + (wrap64 (Int.tmod (IntKind.u64.wrap (a0)) 8388607)))) 0 (wrap64 (1 + (wrap64 (Int.tmod (IntKind.u64.wrap (a2)) 16)))) 2 a3_0 a3_1 a3_2 a3_3 t189 _ A155.out).mono ?_
                        rintro e w123 ⟨rfl, hb⟩
                        have HZ := Aside0.mk (below_step (below_alloc HB.out _) hb)
                        have hx0 : w123.cell? ⟨gb179, 0, none⟩ = some (.int .i64 3) := (hb.cell (World.block_lt_of_cell? _ _ (hy0 _))).trans (hy0 _)
                        have hx1 : w123.cell? ⟨gb179, 1, none⟩ = some (.int .i64 (wrap64 (1 + (wrap64 (Int.tmod (IntKind.u64.wrap (a0)) 8388607))))) := (hb.cell (World.block_lt_of_cell? _ _ (hy1 _))).trans (hy1 _)
                        have hx2 : w123.cell? ⟨gb179, 2, none⟩ = some (.int .i64 0) := (hb.cell (World.block_lt_of_cell? _ _ (hy2 _))).trans (hy2 _)
                        have hx3 : w123.cell? ⟨gb179, 3, none⟩ = some (.int .i64 (wrap64 (1 + (wrap64 (Int.tmod (IntKind.u64.wrap (a2)) 16))))) := (hb.cell (World.block_lt_of_cell? _ _ (hy3 _))).trans (hy3 _)
                        have hx4 : w123.cell? ⟨gb179, 4, none⟩ = some (.int .i64 2) := (hb.cell (World.block_lt_of_cell? _ _ (hy4 _))).trans (hy4 _)
                        have hw0 : w123.cell? ⟨wc.heap.size, 0, none⟩ = some (.int .i64 a3_0) := (blk_cell (blk_below (blk_new wc _) hb) 0).trans rfl
                        have hw1 : w123.cell? ⟨wc.heap.size, 1, none⟩ = some (.int .u64 a3_1) := (blk_cell (blk_below (blk_new wc _) hb) 1).trans rfl
                        have hw2 : w123.cell? ⟨wc.heap.size, 2, none⟩ = some (.int .u64 a3_2) := (blk_cell (blk_below (blk_new wc _) hb) 2).trans rfl
                        have hw3 : w123.cell? ⟨wc.heap.size, 3, none⟩ = some (.int .i64 a3_3) := (blk_cell (blk_below (blk_new wc _) hb) 3).trans rfl
                        clear hy0 hz0
                        clear hy1 hz1
                        clear hy2 hz2
                        clear hy3 hz3
                        clear hy4 hz4
                        clear hb
                        go_wp2_with fail
                        refine (conf_IsOp.calls kj88 3 (wrap64 (1 + (wrap64 (Int.tmod (IntKind.u64.wrap (a0)) 8388607)))) 0 (wrap64 (1 + (wrap64 (Int.tmod (IntKind.u64.wrap (a2)) 16)))) 2 a3_0 a3_1 a3_2 a3_3 t190 _ A158.out).mono ?_
                        rintro e w124 ⟨rfl, hb⟩
                        have HY := Aside0.mk (below_step HZ.out hb)
                        clear hb
                        go_wp2_with fail
                        go_ret
                        exact ⟨by first | rfl | (rw [E.out]; done) | (simp; done), HY.out⟩
                      · rw [if_neg c157] at H
                        have c157b0 : (t183 == 0) = false := beq_eq_false_iff_ne.mpr c157
                        have c157b1 : (t183 != 0) = true := bne_iff_ne.mpr c157
                        obtain ⟨q, d1, d2⟩ : ∃ q, (t183 == 8) = q ∧ (t189 == 8) = q := ⟨_, rfl, eq_of_beq gc156.out⟩
                        cases q
                        all_goals
                          obtain rfl := Option.some.inj H
                          have hz0 : wc.cell? ⟨gb179, 0, none⟩ = some (.int .i64 3) := (blk_cell BK179.out 0).trans rfl
                          have hz1 : wc.cell? ⟨gb179, 1, none⟩ = some (.int .i64 (wrap64 (1 + (wrap64 (Int.tmod (IntKind.u64.wrap (a0)) 8388607))))) := (blk_cell BK179.out 1).trans rfl
                          have hz2 : wc.cell? ⟨gb179, 2, none⟩ = some (.int .i64 0) := (blk_cell BK179.out 2).trans rfl
                          have hz3 : wc.cell? ⟨gb179, 3, none⟩ = some (.int .i64 (wrap64 (1 + (wrap64 (Int.tmod (IntKind.u64.wrap (a2)) 16))))) := (blk_cell BK179.out 3).trans rfl
                          have hz4 : wc.cell? ⟨gb179, 4, none⟩ = some (.int .i64 2) := (blk_cell BK179.out 4).trans rfl
                          have hy0 : ∀ o, (wc.alloc o).cell? ⟨gb179, 0, none⟩ = some (.int .i64 3) := fun o => ((below_alloc (Below.refl wc.heap.size wc) o).cell (World.block_lt_of_cell? wc _ hz0)).trans hz0
                          have hy1 : ∀ o, (wc.alloc o).cell? ⟨gb179, 1, none⟩ = some (.int .i64 (wrap64 (1 + (wrap64 (Int.tmod (IntKind.u64.wrap (a0)) 8388607))))) := fun o => ((below_alloc (Below.refl wc.heap.size wc) o).cell (World.block_lt_of_cell? wc _ hz1)).trans hz1
                          have hy2 : ∀ o, (wc.alloc o).cell? ⟨gb179, 2, none⟩ = some (.int .i64 0) := fun o => ((below_alloc (Below.refl wc.heap.size wc) o).cell (World.block_lt_of_cell? wc _ hz2)).trans hz2
                          have hy3 : ∀ o, (wc.alloc o).cell? ⟨gb179, 3, none⟩ = some (.int .i64 (wrap64 (1 + (wrap64 (Int.tmod (IntKind.u64.wrap (a2)) 16))))) := fun o => ((below_alloc (Below.refl wc.heap.size wc) o).cell (World.block_lt_of_cell? wc _ hz3)).trans hz3
                          have hy4 : ∀ o, (wc.alloc o).cell? ⟨gb179, 4, none⟩ = some (.int .i64 2) := fun o => ((below_alloc (Below.refl wc.heap.size wc) o).cell (World.block_lt_of_cell? wc _ hz4)).trans hz4
                          have hc0 : wc.cell? ⟨gb170, 0, none⟩ = some (.int .i64 a3_0) := (blk_cell BK170.out 0).trans rfl
                          have hc1 : wc.cell? ⟨gb170, 1, none⟩ = some (.int .u64 a3_1) := (blk_cell BK170.out 1).trans rfl
                          have hc2 : wc.cell? ⟨gb170, 2, none⟩ = some (.int .u64 a3_2) := (blk_cell BK170.out 2).trans rfl
                          have hc3 : wc.cell? ⟨gb170, 3, none⟩ = some (.int .i64 a3_3) := (blk_cell BK170.out 3).trans rfl
                          have hq0 := blk_frozen BK170.out 0
                          have hq1 := blk_frozen BK170.out 1
                          have hq2 := blk_frozen BK170.out 2
                          have hq3 := blk_frozen BK170.out 3
                          go_wp2_with fail
                          refine (conf_IsOp.calls kj88 3 (wrap64 (1 + (wrap64 (Int.tmod (IntKind.u64.wrap (a0)) 8388607)))) 0 (wrap64 (1 + (wrap64 (Int.tmod (IntKind.u64.wrap (a2)) 16)))) 2 a3_0 a3_1 a3_2 a3_3 t189 _ A155.out).mono ?_
                          rintro e w123 ⟨rfl, hb⟩
                          have HZ := Aside0.mk (below_step (below_alloc HB.out _) hb)
                          clear hy0 hz0
                          clear hy1 hz1
                          clear hy2 hz2
                          clear hy3 hz3
                          clear hy4 hz4
                          clear hb
                          go_wp2_with fail
                          go_ret
                          exact ⟨by first | rfl | (rw [E.out]; done) | (simp; done), HZ.out⟩
                    · rw [if_neg c156] at H
                      have c156b0 : ((t189 == 8) == (t183 == 8)) = false := by simpa using c156
                      (try (have c156b1 : decide ((t189 == 8) = (t183 == 8)) = false := by simpa using c156))
                      (try (have c156b2 : ((t189 == 8) == (t183 == 8)) = false := by simpa using c156))
                      (try (have c156b3 : ¬ ((t189 == 8) = (t183 == 8)) := by simpa using c156))
                      clear c156
                      exact absurd ((Option.some.inj H).trans HR.out) (by decide)
  · replace c6 := Bool.eq_false_iff.mpr c6
    subst c6
    have H1 : (some false) = some r := by rw [if_neg (show ¬ (false = true) by decide)] at H; exact H
    clear H
    have H := H1
    clear H1
    exact absurd ((Option.some.inj H).trans HR.out) (by decide)

end Go.Proofs.Ytgbnefhfhgkpmaa.PConfOps
