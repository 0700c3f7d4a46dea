import Derived.Test.YthdimjpofkapfaaPLinkExactx0
import Derived.Test.YthdimjpofkapfaaPLinkExactx1
import Derived.Test.YthdimjpofkapfaaPLinkExactx2
import Derived.Test.YthdimjpofkapfaaPLinkExactx3
import Derived.Test.YthdimjpofkapfaaPLinkExactx4
import Derived.Test.YthdimjpofkapfaaPLinkExactx5
import Derived.Test.YthdimjpofkapfaaQLinkExactx6
import Derived.Test.YthdimjpofkapfaaQLinkExactx7
import Derived.Test.YthdimjpofkapfaaQLinkExactx8
namespace Go.Proofs.Ythdimjpofkapfaa.PLinkExact
open Go.RowKit Go.Proofs.YthdimjpofkapfaaW.PrintWords Go.Proofs.YthdimjpofkapfaaW.PrintLast Go.Proofs.YthdimjpofkapfaaW.PrintMore
attribute [local go_sem] max2_int min2_int max_two min_two max_three min_three max_four min_four   -- for this text's walks alone
set_option linter.unusedVariables false
set_option linter.unusedSimpArgs false

/-! ### revenantlaw02_LinkMarks: function 6 -/
mutual
def revenantlaw02_LinkMarks.j0 : Nat → Int → Int → Int → Int → Int → Bool → Option (Bool)
  | 0, _, _, _, _, _, _ => none
  | k + 1, x0, x3, x9, x10, x11, x43 => if x43 = true then (some false) else ((link_IsMarked.f x0).bind fun t200 => (if t200 = true then (revenantlaw02_LinkMarks.j1 k x0 x3 x9 false) else ((link_Slot.f k x11).bind fun t201 => (if t201 = x9 then ((link_Version.f k x11).bind fun t202 => (revenantlaw02_LinkMarks.j1 k x0 x3 x9 (t202 != x10))) else (revenantlaw02_LinkMarks.j1 k x0 x3 x9 true)))))
def revenantlaw02_LinkMarks.j1 : Nat → Int → Int → Int → Bool → Option (Bool)
  | 0, _, _, _, _ => none
  | k + 1, x0, x3, x9, x58 => if x58 = true then (some false) else ((link_Next.f k x0 x9).bind fun bt203 => (if bt203.2 = 0 then ((link_Version.f k x0).bind fun t206 => (if (IntKind.u64.wrap (wrap64 (t206 + 1))) = 0 then (none) else ((link_Newer.f k bt203.1 x0).bind fun t207 => (if t207 = 1 then ((link_Newer.f k x0 bt203.1).bind fun t208 => (if t208 = (-1) then ((link_To.f k x9 (wrap64 (Int.tmod (IntKind.u64.wrap (x3)) (IntKind.u64.wrap (wrap64 (t206 + 1)))))).bind fun t209 => (if bt203.1 = t209 then (some false) else ((link_Marked.f k 0 x9 (wrap64 (Int.tmod (IntKind.u64.wrap (x3)) (IntKind.u64.wrap (wrap64 (t206 + 1)))))).bind fun t210 => (if bt203.1 = t210 then (some false) else ((link_IsMarked.f bt203.1).bind fun t211 => (if t211 = true then (some false) else ((link_To.f k 1 (wrap64 (Int.tmod (IntKind.u64.wrap (x3)) (IntKind.u64.wrap (wrap64 (t206 + 1)))))).bind fun t212 => ((link_Newer.f k t212 bt203.1).bind fun t213 => (some (t213 == (-1))))))))))) else (some false))) else (some false))))) else ((link_Version.f k x0).bind fun t205 => (some (t205 == 1099511627775)))))
end
def revenantlaw02_LinkMarks.f (k : Nat) (a0 : Int) (a1 : Int) (a2 : Int) (a3 : Int) : Option (Bool) := (revenantlaw02_awake.f k).bind fun t194 => (if t194 = true then ((link_Marked.f k a0 (wrap64 (Int.tmod (IntKind.u64.wrap (a1)) 8388608)) (wrap64 (Int.tmod (IntKind.u64.wrap (a2)) 1099511627776))).bind fun t195 => ((link_IsMarked.f t195).bind fun t196 => (if t196 = true then ((link_Marked.f k t195 1 1).bind fun t197 => (if t197 = t195 then ((link_To.f k (wrap64 (Int.tmod (IntKind.u64.wrap (a1)) 8388608)) (wrap64 (Int.tmod (IntKind.u64.wrap (a2)) 1099511627776))).bind fun t198 => ((link_IsMarked.f t198).bind fun t199 => (revenantlaw02_LinkMarks.j0 k a0 a3 (wrap64 (Int.tmod (IntKind.u64.wrap (a1)) 8388608)) (wrap64 (Int.tmod (IntKind.u64.wrap (a2)) 1099511627776)) t195 t199))) else (revenantlaw02_LinkMarks.j0 k a0 a3 (wrap64 (Int.tmod (IntKind.u64.wrap (a1)) 8388608)) (wrap64 (Int.tmod (IntKind.u64.wrap (a2)) 1099511627776)) t195 true))) else (revenantlaw02_LinkMarks.j0 k a0 a3 (wrap64 (Int.tmod (IntKind.u64.wrap (a1)) 8388608)) (wrap64 (Int.tmod (IntKind.u64.wrap (a2)) 1099511627776)) t195 true)))) else (some false))
theorem revenantlaw02_LinkMarks.mono_l : ∀ k, (∀ y0 y1 y2 y3 y4 y5, LeO (revenantlaw02_LinkMarks.j0 k y0 y1 y2 y3 y4 y5) (revenantlaw02_LinkMarks.j0 (k + 1) y0 y1 y2 y3 y4 y5)) ∧ (∀ y0 y1 y2 y3, LeO (revenantlaw02_LinkMarks.j1 k y0 y1 y2 y3) (revenantlaw02_LinkMarks.j1 (k + 1) y0 y1 y2 y3))
  | 0 => ⟨fun _ _ _ _ _ _ r h => by simp [revenantlaw02_LinkMarks.j0] at h, fun _ _ _ _ r h => by simp [revenantlaw02_LinkMarks.j1] at h⟩
  | k + 1 => by
    obtain ⟨ih0, ih1⟩ := revenantlaw02_LinkMarks.mono_l k
    refine ⟨?_, ?_⟩
    · intro y0 y1 y2 y3 y4 y5
      unfold revenantlaw02_LinkMarks.j0
      repeat' first
      | (with_reducible exact ih0 _ _ _ _ _ _)
      | (with_reducible exact ih1 _ _ _ _)
      | (with_reducible exact link_Marked.mono _ _ _ _)
      | (with_reducible exact link_Newer.mono _ _ _)
      | (with_reducible exact link_Next.mono _ _ _)
      | (with_reducible exact link_Slot.mono _ _)
      | (with_reducible exact link_To.mono _ _ _)
      | (with_reducible exact link_Version.mono _ _)
      | (with_reducible exact revenantlaw02_awake.mono _)
      | (with_reducible exact LeO.refl _)
      | (with_reducible exact LeO.none _)
      | (with_reducible refine LeO.ite ?_ ?_)
      | (with_reducible refine LeO.bind ?_ (fun _ => ?_))
      | exact ih0 _ _ _ _ _ _
      | exact ih1 _ _ _ _
      | exact link_Marked.mono _ _ _ _
      | exact link_Newer.mono _ _ _
      | exact link_Next.mono _ _ _
      | exact link_Slot.mono _ _
      | exact link_To.mono _ _ _
      | exact link_Version.mono _ _
      | exact revenantlaw02_awake.mono _
      | exact LeO.none _
      | refine LeO.ite ?_ ?_
      | refine LeO.bind ?_ (fun _ => ?_)
    · intro y0 y1 y2 y3
      unfold revenantlaw02_LinkMarks.j1
      repeat' first
      | (with_reducible exact ih0 _ _ _ _ _ _)
      | (with_reducible exact ih1 _ _ _ _)
      | (with_reducible exact link_Marked.mono _ _ _ _)
      | (with_reducible exact link_Newer.mono _ _ _)
      | (with_reducible exact link_Next.mono _ _ _)
      | (with_reducible exact link_Slot.mono _ _)
      | (with_reducible exact link_To.mono _ _ _)
      | (with_reducible exact link_Version.mono _ _)
      | (with_reducible exact revenantlaw02_awake.mono _)
      | (with_reducible exact LeO.refl _)
      | (with_reducible exact LeO.none _)
      | (with_reducible refine LeO.ite ?_ ?_)
      | (with_reducible refine LeO.bind ?_ (fun _ => ?_))
      | exact ih0 _ _ _ _ _ _
      | exact ih1 _ _ _ _
      | exact link_Marked.mono _ _ _ _
      | exact link_Newer.mono _ _ _
      | exact link_Next.mono _ _ _
      | exact link_Slot.mono _ _
      | exact link_To.mono _ _ _
      | exact link_Version.mono _ _
      | exact revenantlaw02_awake.mono _
      | exact LeO.none _
      | refine LeO.ite ?_ ?_
      | refine LeO.bind ?_ (fun _ => ?_)
theorem revenantlaw02_LinkMarks.mono : ∀ a0 a1 a2 a3 k, LeO (revenantlaw02_LinkMarks.f k a0 a1 a2 a3) (revenantlaw02_LinkMarks.f (k + 1) a0 a1 a2 a3) := by
  intro a0 a1 a2 a3 k
  obtain ⟨ih0, ih1⟩ := revenantlaw02_LinkMarks.mono_l k
  unfold revenantlaw02_LinkMarks.f
  repeat' first
      | (with_reducible exact ih0 _ _ _ _ _ _)
      | (with_reducible exact ih1 _ _ _ _)
      | (with_reducible exact link_Marked.mono _ _ _ _)
      | (with_reducible exact link_Newer.mono _ _ _)
      | (with_reducible exact link_Next.mono _ _ _)
      | (with_reducible exact link_Slot.mono _ _)
      | (with_reducible exact link_To.mono _ _ _)
      | (with_reducible exact link_Version.mono _ _)
      | (with_reducible exact revenantlaw02_awake.mono _)
      | (with_reducible exact LeO.refl _)
      | (with_reducible exact LeO.none _)
      | (with_reducible refine LeO.ite ?_ ?_)
      | (with_reducible refine LeO.bind ?_ (fun _ => ?_))
      | exact ih0 _ _ _ _ _ _
      | exact ih1 _ _ _ _
      | exact link_Marked.mono _ _ _ _
      | exact link_Newer.mono _ _ _
      | exact link_Next.mono _ _ _
      | exact link_Slot.mono _ _
      | exact link_To.mono _ _ _
      | exact link_Version.mono _ _
      | exact revenantlaw02_awake.mono _
      | exact LeO.none _
      | refine LeO.ite ?_ ?_
      | refine LeO.bind ?_ (fun _ => ?_)
theorem revenantlaw02_LinkMarks.j0_no {k : Nat} {y0 : Int} {y1 : Int} {y2 : Int} {y3 : Int} {y4 : Int} {r : Bool} (h : revenantlaw02_LinkMarks.j0 k y0 y1 y2 y3 y4 true = some r) : r = false := by
  cases k with
  | zero => exact absurd h (by simp [revenantlaw02_LinkMarks.j0])
  | succ k => exact (Option.some.inj (by simpa only [revenantlaw02_LinkMarks.j0, if_true] using h)).symm
theorem revenantlaw02_LinkMarks.j1_no {k : Nat} {y0 : Int} {y1 : Int} {y2 : Int} {r : Bool} (h : revenantlaw02_LinkMarks.j1 k y0 y1 y2 true = some r) : r = false := by
  cases k with
  | zero => exact absurd h (by simp [revenantlaw02_LinkMarks.j1])
  | succ k => exact (Option.some.inj (by simpa only [revenantlaw02_LinkMarks.j1, if_true] using h)).symm
set_option maxHeartbeats 8000000 in
set_option maxRecDepth 100000 in
theorem revenantlaw02_LinkMarks.callsT (k : Nat) (a0 : Int) (a1 : Int) (a2 : Int) (a3 : Int) (r : Bool) (w : World) (hr0 : r = true) (h : revenantlaw02_LinkMarks.f k a0 a1 a2 a3 = some r) :
    Calls Try.prog 6 #[.int .u64 a0, .int .i64 a1, .int .i64 a2, .int .i64 a3] w fun e w' => e = .returned (.bool r) ∧ Below w.heap.size w w' := by
  have HB := Aside0.mk (Below.refl w.heap.size w)
  have HR := Aside0.mk hr0
  clear hr0
  have H : ((revenantlaw02_awake.f k).bind fun t194 => (if t194 = true then ((link_Marked.f k a0 (wrap64 (Int.tmod (IntKind.u64.wrap (a1)) 8388608)) (wrap64 (Int.tmod (IntKind.u64.wrap (a2)) 1099511627776))).bind fun t195 => ((link_IsMarked.f t195).bind fun t196 => (if t196 = true then ((link_Marked.f k t195 1 1).bind fun t197 => (if t197 = t195 then ((link_To.f k (wrap64 (Int.tmod (IntKind.u64.wrap (a1)) 8388608)) (wrap64 (Int.tmod (IntKind.u64.wrap (a2)) 1099511627776))).bind fun t198 => ((link_IsMarked.f t198).bind fun t199 => (revenantlaw02_LinkMarks.j0 k a0 a3 (wrap64 (Int.tmod (IntKind.u64.wrap (a1)) 8388608)) (wrap64 (Int.tmod (IntKind.u64.wrap (a2)) 1099511627776)) t195 t199))) else (revenantlaw02_LinkMarks.j0 k a0 a3 (wrap64 (Int.tmod (IntKind.u64.wrap (a1)) 8388608)) (wrap64 (Int.tmod (IntKind.u64.wrap (a2)) 1099511627776)) t195 true))) else (revenantlaw02_LinkMarks.j0 k a0 a3 (wrap64 (Int.tmod (IntKind.u64.wrap (a1)) 8388608)) (wrap64 (Int.tmod (IntKind.u64.wrap (a2)) 1099511627776)) t195 true)))) else (some false))) = some r := h
  clear h
  replace H := Option.bind_eq_some_iff.mp H
  obtain ⟨t194, A50, H⟩ := H
  replace H : (if t194 = true then ((link_Marked.f k a0 (wrap64 (Int.tmod (IntKind.u64.wrap (a1)) 8388608)) (wrap64 (Int.tmod (IntKind.u64.wrap (a2)) 1099511627776))).bind fun t195 => ((link_IsMarked.f t195).bind fun t196 => (if t196 = true then ((link_Marked.f k t195 1 1).bind fun t197 => (if t197 = t195 then ((link_To.f k (wrap64 (Int.tmod (IntKind.u64.wrap (a1)) 8388608)) (wrap64 (Int.tmod (IntKind.u64.wrap (a2)) 1099511627776))).bind fun t198 => ((link_IsMarked.f t198).bind fun t199 => (revenantlaw02_LinkMarks.j0 k a0 a3 (wrap64 (Int.tmod (IntKind.u64.wrap (a1)) 8388608)) (wrap64 (Int.tmod (IntKind.u64.wrap (a2)) 1099511627776)) t195 t199))) else (revenantlaw02_LinkMarks.j0 k a0 a3 (wrap64 (Int.tmod (IntKind.u64.wrap (a1)) 8388608)) (wrap64 (Int.tmod (IntKind.u64.wrap (a2)) 1099511627776)) t195 true))) else (revenantlaw02_LinkMarks.j0 k a0 a3 (wrap64 (Int.tmod (IntKind.u64.wrap (a1)) 8388608)) (wrap64 (Int.tmod (IntKind.u64.wrap (a2)) 1099511627776)) t195 true)))) else (some false)) = some r := H
  have A5 := Aside0.mk A50
  clear A50
  by_cases c6 : t194 = true
  · subst c6
    have H1 : ((link_Marked.f k a0 (wrap64 (Int.tmod (IntKind.u64.wrap (a1)) 8388608)) (wrap64 (Int.tmod (IntKind.u64.wrap (a2)) 1099511627776))).bind fun t195 => ((link_IsMarked.f t195).bind fun t196 => (if t196 = true then ((link_Marked.f k t195 1 1).bind fun t197 => (if t197 = t195 then ((link_To.f k (wrap64 (Int.tmod (IntKind.u64.wrap (a1)) 8388608)) (wrap64 (Int.tmod (IntKind.u64.wrap (a2)) 1099511627776))).bind fun t198 => ((link_IsMarked.f t198).bind fun t199 => (revenantlaw02_LinkMarks.j0 k a0 a3 (wrap64 (Int.tmod (IntKind.u64.wrap (a1)) 8388608)) (wrap64 (Int.tmod (IntKind.u64.wrap (a2)) 1099511627776)) t195 t199))) else (revenantlaw02_LinkMarks.j0 k a0 a3 (wrap64 (Int.tmod (IntKind.u64.wrap (a1)) 8388608)) (wrap64 (Int.tmod (IntKind.u64.wrap (a2)) 1099511627776)) t195 true))) else (revenantlaw02_LinkMarks.j0 k a0 a3 (wrap64 (Int.tmod (IntKind.u64.wrap (a1)) 8388608)) (wrap64 (Int.tmod (IntKind.u64.wrap (a2)) 1099511627776)) t195 true)))) = some r := by rw [if_pos rfl] at H; exact H
    clear H
    have H := H1
    clear H1
    replace H := Option.bind_eq_some_iff.mp H
    obtain ⟨t195, A70, H⟩ := H
    replace H : ((link_IsMarked.f t195).bind fun t196 => (if t196 = true then ((link_Marked.f k t195 1 1).bind fun t197 => (if t197 = t195 then ((link_To.f k (wrap64 (Int.tmod (IntKind.u64.wrap (a1)) 8388608)) (wrap64 (Int.tmod (IntKind.u64.wrap (a2)) 1099511627776))).bind fun t198 => ((link_IsMarked.f t198).bind fun t199 => (revenantlaw02_LinkMarks.j0 k a0 a3 (wrap64 (Int.tmod (IntKind.u64.wrap (a1)) 8388608)) (wrap64 (Int.tmod (IntKind.u64.wrap (a2)) 1099511627776)) t195 t199))) else (revenantlaw02_LinkMarks.j0 k a0 a3 (wrap64 (Int.tmod (IntKind.u64.wrap (a1)) 8388608)) (wrap64 (Int.tmod (IntKind.u64.wrap (a2)) 1099511627776)) t195 true))) else (revenantlaw02_LinkMarks.j0 k a0 a3 (wrap64 (Int.tmod (IntKind.u64.wrap (a1)) 8388608)) (wrap64 (Int.tmod (IntKind.u64.wrap (a2)) 1099511627776)) t195 true))) = some r := H
    have A7 := Aside0.mk A70
    clear A70
    have HC8 := Aside0.mk H
    clear H
    go_enter Try.func6, Try.ntmps6
    go_upto_region 6 with (first | ((with_reducible refine gate_callee (f := 14) rfl ?_); refine goesL_ (some 15) rfl rfl Try.func14 (by kernel_rfl) rfl #[] rfl (by (try simp only [List.map_toArray, List.map_cons, List.map_nil]); first | done | rfl | (simp only [List.length_drop, List.length_take]; rfl)) ?_; (with_reducible refine (revenantlaw02_awake.calls k  true _ A5.out).mono ?_); rintro e w9 ⟨rfl, hb⟩; refine ⟨_, rfl, ?_⟩; have n0_ := Aside0.mk (below_step (by repeat (first | (with_reducible first | exact HB.out | apply below_alloc | apply pw_below_drewN | apply below_drew1) | exact HB.out)) hb); clear HB; have HB := n0_; clear n0_; (try clear hb); (try clear hb2); (try clear hk); (try clear hi)) | ((with_reducible refine gate_callee (f := 28) rfl ?_); refine goesL_ (some 28) rfl rfl Try.func28 (by kernel_rfl) rfl #[.int .u64 a0, .int .i64 (wrap64 (Int.tmod (IntKind.u64.wrap (a1)) 8388608)), .int .i64 (wrap64 (Int.tmod (IntKind.u64.wrap (a2)) 1099511627776))] rfl (by (try simp only [List.map_toArray, List.map_cons, List.map_nil]); first | done | rfl | (simp only [List.length_drop, List.length_take]; rfl)) ?_; (with_reducible refine (link_Marked.calls k a0 (wrap64 (Int.tmod (IntKind.u64.wrap (a1)) 8388608)) (wrap64 (Int.tmod (IntKind.u64.wrap (a2)) 1099511627776)) t195 _ A7.out).mono ?_); rintro e w10 ⟨rfl, hb⟩; refine ⟨_, rfl, ?_⟩; have n0_ := Aside0.mk (below_step (by repeat (first | (with_reducible first | exact HB.out | apply below_alloc | apply pw_below_drewN | apply below_drew1) | exact HB.out)) hb); clear HB; have HB := n0_; clear n0_; (try clear hb); (try clear hb2); (try clear hk); (try clear hi)))
    (try simp only [Act.put, List.setIfInBounds_toArray, List.set_cons_zero, List.set_cons_succ])
    go_cut [43] (fun v43 wc => ∃ (kq : Nat) (x43_7 : Bool), v43 = .bool x43_7 ∧ Aside0 (revenantlaw02_LinkMarks.j0 kq a0 a3 (wrap64 (Int.tmod (IntKind.u64.wrap (a1)) 8388608)) (wrap64 (Int.tmod (IntKind.u64.wrap (a2)) 1099511627776)) t195 x43_7 = some r) ∧ Aside0 (kq ≤ k) ∧ Aside0 (Below w.heap.size w wc))
    case first =>
      have H := HC8.out
      clear HC8
      replace H := Option.bind_eq_some_iff.mp H
      obtain ⟨t196, A110, H⟩ := H
      replace H : (if t196 = true then ((link_Marked.f k t195 1 1).bind fun t197 => (if t197 = t195 then ((link_To.f k (wrap64 (Int.tmod (IntKind.u64.wrap (a1)) 8388608)) (wrap64 (Int.tmod (IntKind.u64.wrap (a2)) 1099511627776))).bind fun t198 => ((link_IsMarked.f t198).bind fun t199 => (revenantlaw02_LinkMarks.j0 k a0 a3 (wrap64 (Int.tmod (IntKind.u64.wrap (a1)) 8388608)) (wrap64 (Int.tmod (IntKind.u64.wrap (a2)) 1099511627776)) t195 t199))) else (revenantlaw02_LinkMarks.j0 k a0 a3 (wrap64 (Int.tmod (IntKind.u64.wrap (a1)) 8388608)) (wrap64 (Int.tmod (IntKind.u64.wrap (a2)) 1099511627776)) t195 true))) else (revenantlaw02_LinkMarks.j0 k a0 a3 (wrap64 (Int.tmod (IntKind.u64.wrap (a1)) 8388608)) (wrap64 (Int.tmod (IntKind.u64.wrap (a2)) 1099511627776)) t195 true)) = some r := H
      have A11 := Aside0.mk A110
      clear A110
      by_cases c12 : t196 = true
      · subst c12
        have H1 : ((link_Marked.f k t195 1 1).bind fun t197 => (if t197 = t195 then ((link_To.f k (wrap64 (Int.tmod (IntKind.u64.wrap (a1)) 8388608)) (wrap64 (Int.tmod (IntKind.u64.wrap (a2)) 1099511627776))).bind fun t198 => ((link_IsMarked.f t198).bind fun t199 => (revenantlaw02_LinkMarks.j0 k a0 a3 (wrap64 (Int.tmod (IntKind.u64.wrap (a1)) 8388608)) (wrap64 (Int.tmod (IntKind.u64.wrap (a2)) 1099511627776)) t195 t199))) else (revenantlaw02_LinkMarks.j0 k a0 a3 (wrap64 (Int.tmod (IntKind.u64.wrap (a1)) 8388608)) (wrap64 (Int.tmod (IntKind.u64.wrap (a2)) 1099511627776)) t195 true))) = some r := by rw [if_pos rfl] at H; exact H
        clear H
        have H := H1
        clear H1
        replace H := Option.bind_eq_some_iff.mp H
        obtain ⟨t197, A130, H⟩ := H
        replace H : (if t197 = t195 then ((link_To.f k (wrap64 (Int.tmod (IntKind.u64.wrap (a1)) 8388608)) (wrap64 (Int.tmod (IntKind.u64.wrap (a2)) 1099511627776))).bind fun t198 => ((link_IsMarked.f t198).bind fun t199 => (revenantlaw02_LinkMarks.j0 k a0 a3 (wrap64 (Int.tmod (IntKind.u64.wrap (a1)) 8388608)) (wrap64 (Int.tmod (IntKind.u64.wrap (a2)) 1099511627776)) t195 t199))) else (revenantlaw02_LinkMarks.j0 k a0 a3 (wrap64 (Int.tmod (IntKind.u64.wrap (a1)) 8388608)) (wrap64 (Int.tmod (IntKind.u64.wrap (a2)) 1099511627776)) t195 true)) = some r := H
        have A13 := Aside0.mk A130
        clear A130
        by_cases c14 : t197 = t195
        · rw [if_pos c14] at H
          have c14b0 : (t197 == t195) = true := beq_iff_eq.mpr c14
          have c14b1 : (t197 != t195) = false := bne_eq_false_iff_eq.mpr c14
          clear c14
          (first | rw [c14b0] | (simp only [i64_w, i32_w]; rw [c14b0]) | skip)
          replace H := Option.bind_eq_some_iff.mp H
          obtain ⟨t198, A150, H⟩ := H
          replace H : ((link_IsMarked.f t198).bind fun t199 => (revenantlaw02_LinkMarks.j0 k a0 a3 (wrap64 (Int.tmod (IntKind.u64.wrap (a1)) 8388608)) (wrap64 (Int.tmod (IntKind.u64.wrap (a2)) 1099511627776)) t195 t199)) = some r := H
          have A15 := Aside0.mk A150
          clear A150
          replace H := Option.bind_eq_some_iff.mp H
          obtain ⟨t199, A160, H⟩ := H
          replace H : (revenantlaw02_LinkMarks.j0 k a0 a3 (wrap64 (Int.tmod (IntKind.u64.wrap (a1)) 8388608)) (wrap64 (Int.tmod (IntKind.u64.wrap (a2)) 1099511627776)) t195 t199) = some r := H
          have A16 := Aside0.mk A160
          clear A160
          have H' := Aside0.mk H
          clear H
          go_wp2_with (first | ((with_reducible refine gate_callee (f := 26) rfl ?_); refine goesL_ (some 30) rfl rfl Try.func26 (by kernel_rfl) rfl #[.int .u64 t195] rfl (by (try simp only [List.map_toArray, List.map_cons, List.map_nil]); first | done | rfl | (simp only [List.length_drop, List.length_take]; rfl)) ?_; (with_reducible refine (link_IsMarked.calls t195 true _ A11.out).mono ?_); rintro e w' ⟨rfl, ⟨nd, rfl⟩⟩; refine ⟨_, rfl, ?_⟩) | (go_at_call 28; (with_reducible refine (link_Marked.calls k t195 1 1 t197 _ A13.out).mono ?_); rintro e w17 ⟨rfl, hb⟩; have n0_ := Aside0.mk (below_step (by repeat (first | (with_reducible first | exact HB.out | apply below_alloc | apply pw_below_drewN | apply below_drew1) | exact HB.out)) hb); clear HB; have HB := n0_; clear n0_; (try clear hb); (try clear hb2); (try clear hk); (try clear hi)) | (go_at_call 27; (with_reducible refine (link_To.calls k (wrap64 (Int.tmod (IntKind.u64.wrap (a1)) 8388608)) (wrap64 (Int.tmod (IntKind.u64.wrap (a2)) 1099511627776)) t198 _ A15.out).mono ?_); rintro e w18 ⟨rfl, hb⟩; have n0_ := Aside0.mk (below_step (by repeat (first | (with_reducible first | exact HB.out | apply below_alloc | apply pw_below_drewN | apply below_drew1) | exact HB.out)) hb); clear HB; have HB := n0_; clear n0_; (try clear hb); (try clear hb2); (try clear hk); (try clear hi)) | (go_at_call 26; (with_reducible refine (link_IsMarked.calls t198 t199 _ A16.out).mono ?_); rintro e w' ⟨rfl, ⟨nd, rfl⟩⟩))
          go_meet
          case rel => exact ⟨_, (t199), (by first | rfl | (simp; done) | (simp [*]; done)), H', ⟨by first | omega | exact Nat.le_refl _⟩, ⟨by repeat (first | (with_reducible first | exact HB.out | apply below_alloc | apply pw_below_drewN | apply below_drew1) | exact HB.out)⟩⟩
        · rw [if_neg c14] at H
          exact absurd ((revenantlaw02_LinkMarks.j0_no H).symm.trans HR.out) (by decide)
      · replace c12 := Bool.eq_false_iff.mpr c12
        subst c12
        have H1 : (revenantlaw02_LinkMarks.j0 k a0 a3 (wrap64 (Int.tmod (IntKind.u64.wrap (a1)) 8388608)) (wrap64 (Int.tmod (IntKind.u64.wrap (a2)) 1099511627776)) t195 true) = some r := by rw [if_neg (show ¬ (false = true) by decide)] at H; exact H
        clear H
        have H := H1
        clear H1
        exact absurd ((revenantlaw02_LinkMarks.j0_no H).symm.trans HR.out) (by decide)
    case rest =>
      clear HC8
      try clear c1
      try clear c2
      try clear p2
      try clear c6
      try clear p6
      try clear c12
      try clear c14
      try clear c14b0
      try clear c14b1
      obtain ⟨kq, x43_7, rfl, HA, HJ7, HB⟩ := hcut
      cases kq with
      | zero => exact absurd HA.out (by simp [revenantlaw02_LinkMarks.j0])
      | succ kj7 =>
        have H := HA.out
        clear HA
        simp only [revenantlaw02_LinkMarks.j0] at H
        by_cases c20 : x43_7 = true
        · subst c20
          have H1 : (some false) = some r := by rw [if_pos rfl] at H; exact H
          clear H
          have H := H1
          clear H1
          exact absurd ((Option.some.inj H).trans HR.out) (by decide)
        · replace c20 := Bool.eq_false_iff.mpr c20
          subst c20
          have H1 : ((link_IsMarked.f a0).bind fun t200 => (if t200 = true then (revenantlaw02_LinkMarks.j1 kj7 a0 a3 (wrap64 (Int.tmod (IntKind.u64.wrap (a1)) 8388608)) false) else ((link_Slot.f kj7 t195).bind fun t201 => (if t201 = (wrap64 (Int.tmod (IntKind.u64.wrap (a1)) 8388608)) then ((link_Version.f kj7 t195).bind fun t202 => (revenantlaw02_LinkMarks.j1 kj7 a0 a3 (wrap64 (Int.tmod (IntKind.u64.wrap (a1)) 8388608)) (t202 != (wrap64 (Int.tmod (IntKind.u64.wrap (a2)) 1099511627776))))) else (revenantlaw02_LinkMarks.j1 kj7 a0 a3 (wrap64 (Int.tmod (IntKind.u64.wrap (a1)) 8388608)) true))))) = some r := by rw [if_neg (show ¬ (false = true) by decide)] at H; exact H
          clear H
          have H := H1
          clear H1
          have HC21 := Aside0.mk H
          clear H
          go_upto_region 8 with (fail)
          go_cut [58] (fun v58 wc => ∃ (kq : Nat) (x58_20 : Bool), v58 = .bool x58_20 ∧ Aside0 (revenantlaw02_LinkMarks.j1 kq a0 a3 (wrap64 (Int.tmod (IntKind.u64.wrap (a1)) 8388608)) x58_20 = some r) ∧ Aside0 (kq ≤ kj7) ∧ Aside0 (Below w.heap.size w wc))
          case first =>
            have H := HC21.out
            clear HC21
            replace H := Option.bind_eq_some_iff.mp H
            obtain ⟨t200, A220, H⟩ := H
            replace H : (if t200 = true then (revenantlaw02_LinkMarks.j1 kj7 a0 a3 (wrap64 (Int.tmod (IntKind.u64.wrap (a1)) 8388608)) false) else ((link_Slot.f kj7 t195).bind fun t201 => (if t201 = (wrap64 (Int.tmod (IntKind.u64.wrap (a1)) 8388608)) then ((link_Version.f kj7 t195).bind fun t202 => (revenantlaw02_LinkMarks.j1 kj7 a0 a3 (wrap64 (Int.tmod (IntKind.u64.wrap (a1)) 8388608)) (t202 != (wrap64 (Int.tmod (IntKind.u64.wrap (a2)) 1099511627776))))) else (revenantlaw02_LinkMarks.j1 kj7 a0 a3 (wrap64 (Int.tmod (IntKind.u64.wrap (a1)) 8388608)) true)))) = some r := H
            have A22 := Aside0.mk A220
            clear A220
            by_cases c23 : t200 = true
            · subst c23
              have H1 : (revenantlaw02_LinkMarks.j1 kj7 a0 a3 (wrap64 (Int.tmod (IntKind.u64.wrap (a1)) 8388608)) false) = some r := by rw [if_pos rfl] at H; exact H
              clear H
              have H := H1
              clear H1
              have H' := Aside0.mk H
              clear H
              go_wp2_with (first | ((with_reducible refine gate_callee (f := 26) rfl ?_); refine goesL_ (some 45) rfl rfl Try.func26 (by kernel_rfl) rfl #[.int .u64 a0] rfl (by (try simp only [List.map_toArray, List.map_cons, List.map_nil]); first | done | rfl | (simp only [List.length_drop, List.length_take]; rfl)) ?_; (with_reducible refine (link_IsMarked.calls a0 true _ A22.out).mono ?_); rintro e w' ⟨rfl, ⟨nd, rfl⟩⟩; refine ⟨_, rfl, ?_⟩))
              go_meet
              case rel => exact ⟨_, (false), (by first | rfl | (simp; done) | (simp [*]; done)), H', ⟨by have := HJ7.out; first | omega | exact Nat.le_refl _⟩, ⟨by repeat (first | (with_reducible first | exact HB.out | apply below_alloc | apply pw_below_drewN | apply below_drew1) | exact HB.out)⟩⟩
            · replace c23 := Bool.eq_false_iff.mpr c23
              subst c23
              have H1 : ((link_Slot.f kj7 t195).bind fun t201 => (if t201 = (wrap64 (Int.tmod (IntKind.u64.wrap (a1)) 8388608)) then ((link_Version.f kj7 t195).bind fun t202 => (revenantlaw02_LinkMarks.j1 kj7 a0 a3 (wrap64 (Int.tmod (IntKind.u64.wrap (a1)) 8388608)) (t202 != (wrap64 (Int.tmod (IntKind.u64.wrap (a2)) 1099511627776))))) else (revenantlaw02_LinkMarks.j1 kj7 a0 a3 (wrap64 (Int.tmod (IntKind.u64.wrap (a1)) 8388608)) true))) = some r := by rw [if_neg (show ¬ (false = true) by decide)] at H; exact H
              clear H
              have H := H1
              clear H1
              replace H := Option.bind_eq_some_iff.mp H
              obtain ⟨t201, A240, H⟩ := H
              replace H : (if t201 = (wrap64 (Int.tmod (IntKind.u64.wrap (a1)) 8388608)) then ((link_Version.f kj7 t195).bind fun t202 => (revenantlaw02_LinkMarks.j1 kj7 a0 a3 (wrap64 (Int.tmod (IntKind.u64.wrap (a1)) 8388608)) (t202 != (wrap64 (Int.tmod (IntKind.u64.wrap (a2)) 1099511627776))))) else (revenantlaw02_LinkMarks.j1 kj7 a0 a3 (wrap64 (Int.tmod (IntKind.u64.wrap (a1)) 8388608)) true)) = some r := H
              have A24 := Aside0.mk A240
              clear A240
              by_cases c25 : t201 = (wrap64 (Int.tmod (IntKind.u64.wrap (a1)) 8388608))
              · rw [if_pos c25] at H
                have c25b0 : (t201 == (wrap64 (Int.tmod (IntKind.u64.wrap (a1)) 8388608))) = true := beq_iff_eq.mpr c25
                have c25b1 : (t201 != (wrap64 (Int.tmod (IntKind.u64.wrap (a1)) 8388608))) = false := bne_eq_false_iff_eq.mpr c25
                clear c25
                (first | rw [c25b0] | (simp only [i64_w, i32_w]; rw [c25b0]) | skip)
                replace H := Option.bind_eq_some_iff.mp H
                obtain ⟨t202, A260, H⟩ := H
                replace H : (revenantlaw02_LinkMarks.j1 kj7 a0 a3 (wrap64 (Int.tmod (IntKind.u64.wrap (a1)) 8388608)) (t202 != (wrap64 (Int.tmod (IntKind.u64.wrap (a2)) 1099511627776)))) = some r := H
                have A26 := Aside0.mk A260
                clear A260
                have H' := Aside0.mk H
                clear H
                go_wp2_with (first | ((with_reducible refine gate_callee (f := 26) rfl ?_); refine goesL_ (some 45) rfl rfl Try.func26 (by kernel_rfl) rfl #[.int .u64 a0] rfl (by (try simp only [List.map_toArray, List.map_cons, List.map_nil]); first | done | rfl | (simp only [List.length_drop, List.length_take]; rfl)) ?_; (with_reducible refine (link_IsMarked.calls a0 false _ A22.out).mono ?_); rintro e w' ⟨rfl, ⟨nd, rfl⟩⟩; refine ⟨_, rfl, ?_⟩) | (go_at_call 24; (with_reducible refine (link_Slot.calls kj7 t195 t201 _ A24.out).mono ?_); rintro e w27 ⟨rfl, hb⟩; have n0_ := Aside0.mk (below_step (by repeat (first | (with_reducible first | exact HB.out | apply below_alloc | apply pw_below_drewN | apply below_drew1) | exact HB.out)) hb); clear HB; have HB := n0_; clear n0_; (try clear hb); (try clear hb2); (try clear hk); (try clear hi)) | (go_at_call 25; (with_reducible refine (link_Version.calls kj7 t195 t202 _ A26.out).mono ?_); rintro e w28 ⟨rfl, hb⟩; have n0_ := Aside0.mk (below_step (by repeat (first | (with_reducible first | exact HB.out | apply below_alloc | apply pw_below_drewN | apply below_drew1) | exact HB.out)) hb); clear HB; have HB := n0_; clear n0_; (try clear hb); (try clear hb2); (try clear hk); (try clear hi)))
                go_meet
                case rel => exact ⟨_, ((t202 != (wrap64 (Int.tmod (IntKind.u64.wrap (a2)) 1099511627776)))), (by first | rfl | (simp; done) | (simp [*]; done)), H', ⟨by have := HJ7.out; first | omega | exact Nat.le_refl _⟩, ⟨by repeat (first | (with_reducible first | exact HB.out | apply below_alloc | apply pw_below_drewN | apply below_drew1) | exact HB.out)⟩⟩
              · rw [if_neg c25] at H
                exact absurd ((revenantlaw02_LinkMarks.j1_no H).symm.trans HR.out) (by decide)
          case rest =>
            clear HC21
            try clear c1
            try clear c2
            try clear p2
            try clear c6
            try clear p6
            try clear c12
            try clear c14
            try clear c14b0
            try clear c14b1
            try clear c20
            try clear c23
            try clear c25
            try clear c25b0
            try clear c25b1
            try clear c26
            try clear c28
            try clear p2
            try clear p6
            obtain ⟨kq, x58_20, rfl, HA, HJ20, HB⟩ := hcut
            cases kq with
            | zero => exact absurd HA.out (by simp [revenantlaw02_LinkMarks.j1])
            | succ kj20 =>
              have H := HA.out
              clear HA
              simp only [revenantlaw02_LinkMarks.j1] at H
              by_cases c30 : x58_20 = true
              · subst c30
                have H1 : (some false) = some r := by rw [if_pos rfl] at H; exact H
                clear H
                have H := H1
                clear H1
                exact absurd ((Option.some.inj H).trans HR.out) (by decide)
              · replace c30 := Bool.eq_false_iff.mpr c30
                subst c30
                have H1 : ((link_Next.f kj20 a0 (wrap64 (Int.tmod (IntKind.u64.wrap (a1)) 8388608))).bind fun bt203 => (if bt203.2 = 0 then ((link_Version.f kj20 a0).bind fun t206 => (if (IntKind.u64.wrap (wrap64 (t206 + 1))) = 0 then (none) else ((link_Newer.f kj20 bt203.1 a0).bind fun t207 => (if t207 = 1 then ((link_Newer.f kj20 a0 bt203.1).bind fun t208 => (if t208 = (-1) then ((link_To.f kj20 (wrap64 (Int.tmod (IntKind.u64.wrap (a1)) 8388608)) (wrap64 (Int.tmod (IntKind.u64.wrap (a3)) (IntKind.u64.wrap (wrap64 (t206 + 1)))))).bind fun t209 => (if bt203.1 = t209 then (some false) else ((link_Marked.f kj20 0 (wrap64 (Int.tmod (IntKind.u64.wrap (a1)) 8388608)) (wrap64 (Int.tmod (IntKind.u64.wrap (a3)) (IntKind.u64.wrap (wrap64 (t206 + 1)))))).bind fun t210 => (if bt203.1 = t210 then (some false) else ((link_IsMarked.f bt203.1).bind fun t211 => (if t211 = true then (some false) else ((link_To.f kj20 1 (wrap64 (Int.tmod (IntKind.u64.wrap (a3)) (IntKind.u64.wrap (wrap64 (t206 + 1)))))).bind fun t212 => ((link_Newer.f kj20 t212 bt203.1).bind fun t213 => (some (t213 == (-1))))))))))) else (some false))) else (some false))))) else ((link_Version.f kj20 a0).bind fun t205 => (some (t205 == 1099511627775))))) = some r := by rw [if_neg (show ¬ (false = true) by decide)] at H; exact H
                clear H
                have H := H1
                clear H1
                replace H := Option.bind_eq_some_iff.mp H
                obtain ⟨⟨t203, t204⟩, A310, H⟩ := H
                replace H : (if t204 = 0 then ((link_Version.f kj20 a0).bind fun t206 => (if (IntKind.u64.wrap (wrap64 (t206 + 1))) = 0 then (none) else ((link_Newer.f kj20 t203 a0).bind fun t207 => (if t207 = 1 then ((link_Newer.f kj20 a0 t203).bind fun t208 => (if t208 = (-1) then ((link_To.f kj20 (wrap64 (Int.tmod (IntKind.u64.wrap (a1)) 8388608)) (wrap64 (Int.tmod (IntKind.u64.wrap (a3)) (IntKind.u64.wrap (wrap64 (t206 + 1)))))).bind fun t209 => (if t203 = t209 then (some false) else ((link_Marked.f kj20 0 (wrap64 (Int.tmod (IntKind.u64.wrap (a1)) 8388608)) (wrap64 (Int.tmod (IntKind.u64.wrap (a3)) (IntKind.u64.wrap (wrap64 (t206 + 1)))))).bind fun t210 => (if t203 = t210 then (some false) else ((link_IsMarked.f t203).bind fun t211 => (if t211 = true then (some false) else ((link_To.f kj20 1 (wrap64 (Int.tmod (IntKind.u64.wrap (a3)) (IntKind.u64.wrap (wrap64 (t206 + 1)))))).bind fun t212 => ((link_Newer.f kj20 t212 t203).bind fun t213 => (some (t213 == (-1))))))))))) else (some false))) else (some false))))) else ((link_Version.f kj20 a0).bind fun t205 => (some (t205 == 1099511627775)))) = some r := H
                have A31 := Aside0.mk A310
                clear A310
                by_cases c32 : t204 = 0
                · rw [if_pos c32] at H
                  have c32b0 : (t204 == 0) = true := beq_iff_eq.mpr c32
                  have c32b1 : (t204 != 0) = false := bne_eq_false_iff_eq.mpr c32
                  clear c32
                  replace H := Option.bind_eq_some_iff.mp H
                  obtain ⟨t206, A330, H⟩ := H
                  replace H : (if (IntKind.u64.wrap (wrap64 (t206 + 1))) = 0 then (none) else ((link_Newer.f kj20 t203 a0).bind fun t207 => (if t207 = 1 then ((link_Newer.f kj20 a0 t203).bind fun t208 => (if t208 = (-1) then ((link_To.f kj20 (wrap64 (Int.tmod (IntKind.u64.wrap (a1)) 8388608)) (wrap64 (Int.tmod (IntKind.u64.wrap (a3)) (IntKind.u64.wrap (wrap64 (t206 + 1)))))).bind fun t209 => (if t203 = t209 then (some false) else ((link_Marked.f kj20 0 (wrap64 (Int.tmod (IntKind.u64.wrap (a1)) 8388608)) (wrap64 (Int.tmod (IntKind.u64.wrap (a3)) (IntKind.u64.wrap (wrap64 (t206 + 1)))))).bind fun t210 => (if t203 = t210 then (some false) else ((link_IsMarked.f t203).bind fun t211 => (if t211 = true then (some false) else ((link_To.f kj20 1 (wrap64 (Int.tmod (IntKind.u64.wrap (a3)) (IntKind.u64.wrap (wrap64 (t206 + 1)))))).bind fun t212 => ((link_Newer.f kj20 t212 t203).bind fun t213 => (some (t213 == (-1))))))))))) else (some false))) else (some false)))) = some r := H
                  have A33 := Aside0.mk A330
                  clear A330
                  by_cases c34 : (IntKind.u64.wrap (wrap64 (t206 + 1))) = 0
                  · rw [if_pos c34] at H
                    exact absurd H (by simp)
                  · rw [if_neg c34] at H
                    have c34b0 : ((IntKind.u64.wrap (wrap64 (t206 + 1))) == 0) = false := beq_eq_false_iff_ne.mpr c34
                    have c34b1 : ((IntKind.u64.wrap (wrap64 (t206 + 1))) != 0) = true := bne_iff_ne.mpr c34
                    replace H := Option.bind_eq_some_iff.mp H
                    obtain ⟨t207, A350, H⟩ := H
                    replace H : (if t207 = 1 then ((link_Newer.f kj20 a0 t203).bind fun t208 => (if t208 = (-1) then ((link_To.f kj20 (wrap64 (Int.tmod (IntKind.u64.wrap (a1)) 8388608)) (wrap64 (Int.tmod (IntKind.u64.wrap (a3)) (IntKind.u64.wrap (wrap64 (t206 + 1)))))).bind fun t209 => (if t203 = t209 then (some false) else ((link_Marked.f kj20 0 (wrap64 (Int.tmod (IntKind.u64.wrap (a1)) 8388608)) (wrap64 (Int.tmod (IntKind.u64.wrap (a3)) (IntKind.u64.wrap (wrap64 (t206 + 1)))))).bind fun t210 => (if t203 = t210 then (some false) else ((link_IsMarked.f t203).bind fun t211 => (if t211 = true then (some false) else ((link_To.f kj20 1 (wrap64 (Int.tmod (IntKind.u64.wrap (a3)) (IntKind.u64.wrap (wrap64 (t206 + 1)))))).bind fun t212 => ((link_Newer.f kj20 t212 t203).bind fun t213 => (some (t213 == (-1))))))))))) else (some false))) else (some false)) = some r := H
                    have A35 := Aside0.mk A350
                    clear A350
                    by_cases c36 : t207 = 1
                    · rw [if_pos c36] at H
                      have c36b0 : (t207 == 1) = true := beq_iff_eq.mpr c36
                      have c36b1 : (t207 != 1) = false := bne_eq_false_iff_eq.mpr c36
                      clear c36
                      replace H := Option.bind_eq_some_iff.mp H
                      obtain ⟨t208, A370, H⟩ := H
                      replace H : (if t208 = (-1) then ((link_To.f kj20 (wrap64 (Int.tmod (IntKind.u64.wrap (a1)) 8388608)) (wrap64 (Int.tmod (IntKind.u64.wrap (a3)) (IntKind.u64.wrap (wrap64 (t206 + 1)))))).bind fun t209 => (if t203 = t209 then (some false) else ((link_Marked.f kj20 0 (wrap64 (Int.tmod (IntKind.u64.wrap (a1)) 8388608)) (wrap64 (Int.tmod (IntKind.u64.wrap (a3)) (IntKind.u64.wrap (wrap64 (t206 + 1)))))).bind fun t210 => (if t203 = t210 then (some false) else ((link_IsMarked.f t203).bind fun t211 => (if t211 = true then (some false) else ((link_To.f kj20 1 (wrap64 (Int.tmod (IntKind.u64.wrap (a3)) (IntKind.u64.wrap (wrap64 (t206 + 1)))))).bind fun t212 => ((link_Newer.f kj20 t212 t203).bind fun t213 => (some (t213 == (-1))))))))))) else (some false)) = some r := H
                      have A37 := Aside0.mk A370
                      clear A370
                      by_cases c38 : t208 = (-1)
                      · rw [if_pos c38] at H
                        have c38b0 : (t208 == (-1)) = true := beq_iff_eq.mpr c38
                        have c38b1 : (t208 != (-1)) = false := bne_eq_false_iff_eq.mpr c38
                        clear c38
                        replace H := Option.bind_eq_some_iff.mp H
                        obtain ⟨t209, A390, H⟩ := H
                        replace H : (if t203 = t209 then (some false) else ((link_Marked.f kj20 0 (wrap64 (Int.tmod (IntKind.u64.wrap (a1)) 8388608)) (wrap64 (Int.tmod (IntKind.u64.wrap (a3)) (IntKind.u64.wrap (wrap64 (t206 + 1)))))).bind fun t210 => (if t203 = t210 then (some false) else ((link_IsMarked.f t203).bind fun t211 => (if t211 = true then (some false) else ((link_To.f kj20 1 (wrap64 (Int.tmod (IntKind.u64.wrap (a3)) (IntKind.u64.wrap (wrap64 (t206 + 1)))))).bind fun t212 => ((link_Newer.f kj20 t212 t203).bind fun t213 => (some (t213 == (-1)))))))))) = some r := H
                        have A39 := Aside0.mk A390
                        clear A390
                        by_cases c40 : t203 = t209
                        · rw [if_pos c40] at H
                          have c40b0 : (t203 == t209) = true := beq_iff_eq.mpr c40
                          have c40b1 : (t203 != t209) = false := bne_eq_false_iff_eq.mpr c40
                          clear c40
                          exact absurd ((Option.some.inj H).trans HR.out) (by decide)
                        · rw [if_neg c40] at H
                          have c40b0 : (t203 == t209) = false := beq_eq_false_iff_ne.mpr c40
                          have c40b1 : (t203 != t209) = true := bne_iff_ne.mpr c40
                          replace H := Option.bind_eq_some_iff.mp H
                          obtain ⟨t210, A460, H⟩ := H
                          replace H : (if t203 = t210 then (some false) else ((link_IsMarked.f t203).bind fun t211 => (if t211 = true then (some false) else ((link_To.f kj20 1 (wrap64 (Int.tmod (IntKind.u64.wrap (a3)) (IntKind.u64.wrap (wrap64 (t206 + 1)))))).bind fun t212 => ((link_Newer.f kj20 t212 t203).bind fun t213 => (some (t213 == (-1)))))))) = some r := H
                          have A46 := Aside0.mk A460
                          clear A460
                          by_cases c47 : t203 = t210
                          · rw [if_pos c47] at H
                            have c47b0 : (t203 == t210) = true := beq_iff_eq.mpr c47
                            have c47b1 : (t203 != t210) = false := bne_eq_false_iff_eq.mpr c47
                            clear c47
                            exact absurd ((Option.some.inj H).trans HR.out) (by decide)
                          · rw [if_neg c47] at H
                            have c47b0 : (t203 == t210) = false := beq_eq_false_iff_ne.mpr c47
                            have c47b1 : (t203 != t210) = true := bne_iff_ne.mpr c47
                            replace H := Option.bind_eq_some_iff.mp H
                            obtain ⟨t211, A540, H⟩ := H
                            replace H : (if t211 = true then (some false) else ((link_To.f kj20 1 (wrap64 (Int.tmod (IntKind.u64.wrap (a3)) (IntKind.u64.wrap (wrap64 (t206 + 1)))))).bind fun t212 => ((link_Newer.f kj20 t212 t203).bind fun t213 => (some (t213 == (-1)))))) = some r := H
                            have A54 := Aside0.mk A540
                            clear A540
                            by_cases c55 : t211 = true
                            · subst c55
                              have H1 : (some false) = some r := by rw [if_pos rfl] at H; exact H
                              clear H
                              have H := H1
                              clear H1
                              exact absurd ((Option.some.inj H).trans HR.out) (by decide)
                            · replace c55 := Bool.eq_false_iff.mpr c55
                              subst c55
                              have H1 : ((link_To.f kj20 1 (wrap64 (Int.tmod (IntKind.u64.wrap (a3)) (IntKind.u64.wrap (wrap64 (t206 + 1)))))).bind fun t212 => ((link_Newer.f kj20 t212 t203).bind fun t213 => (some (t213 == (-1))))) = some r := by rw [if_neg (show ¬ (false = true) by decide)] at H; exact H
                              clear H
                              have H := H1
                              clear H1
                              replace H := Option.bind_eq_some_iff.mp H
                              obtain ⟨t212, A620, H⟩ := H
                              replace H : ((link_Newer.f kj20 t212 t203).bind fun t213 => (some (t213 == (-1)))) = some r := H
                              have A62 := Aside0.mk A620
                              clear A620
                              replace H := Option.bind_eq_some_iff.mp H
                              obtain ⟨t213, A630, H⟩ := H
                              replace H : (some (t213 == (-1))) = some r := H
                              have A63 := Aside0.mk A630
                              clear A630
                              obtain rfl := Option.some.inj H
                              go_wp2_with (first | ((with_reducible refine gate_callee (f := 15) rfl ?_); refine goesL_ (some 62) rfl rfl Try.func15 (by kernel_rfl) rfl #[.int .u64 a0, .int .i64 (wrap64 (Int.tmod (IntKind.u64.wrap (a1)) 8388608))] rfl (by (try simp only [List.map_toArray, List.map_cons, List.map_nil]); first | done | rfl | (simp only [List.length_drop, List.length_take]; rfl)) ?_; (with_reducible refine (link_Next.calls kj20 a0 (wrap64 (Int.tmod (IntKind.u64.wrap (a1)) 8388608)) t203 t204 _ A31.out).mono ?_); rintro e w64 ⟨rfl, hb⟩; refine ⟨_, rfl, ?_⟩; have n0_ := Aside0.mk (below_step (by repeat (first | (with_reducible first | exact HB.out | apply below_alloc | apply pw_below_drewN | apply below_drew1) | exact HB.out)) hb); clear HB; have HB := n0_; clear n0_; (try clear hb); (try clear hb2); (try clear hk); (try clear hi)) | ((with_reducible refine gate_callee (f := 25) rfl ?_); refine goesL_ (some 73) rfl rfl Try.func25 (by kernel_rfl) rfl #[.int .u64 a0] rfl (by (try simp only [List.map_toArray, List.map_cons, List.map_nil]); first | done | rfl | (simp only [List.length_drop, List.length_take]; rfl)) ?_; (with_reducible refine (link_Version.calls kj20 a0 t206 _ A33.out).mono ?_); rintro e w65 ⟨rfl, hb⟩; refine ⟨_, rfl, ?_⟩; have n0_ := Aside0.mk (below_step (by repeat (first | (with_reducible first | exact HB.out | apply below_alloc | apply pw_below_drewN | apply below_drew1) | exact HB.out)) hb); clear HB; have HB := n0_; clear n0_; (try clear hb); (try clear hb2); (try clear hk); (try clear hi)) | ((with_reducible refine gate_callee (f := 17) rfl ?_); refine goesL_ (some 80) rfl rfl Try.func17 (by kernel_rfl) rfl #[.int .u64 t203, .int .u64 a0] rfl (by (try simp only [List.map_toArray, List.map_cons, List.map_nil]); first | done | rfl | (simp only [List.length_drop, List.length_take]; rfl)) ?_; (with_reducible refine (link_Newer.calls kj20 t203 a0 t207 _ A35.out).mono ?_); rintro e w66 ⟨rfl, hb⟩; refine ⟨_, rfl, ?_⟩; have n0_ := Aside0.mk (below_step (by repeat (first | (with_reducible first | exact HB.out | apply below_alloc | apply pw_below_drewN | apply below_drew1) | exact HB.out)) hb); clear HB; have HB := n0_; clear n0_; (try clear hb); (try clear hb2); (try clear hk); (try clear hi)) | (go_at_call 17; (with_reducible refine (link_Newer.calls kj20 a0 t203 t208 _ A37.out).mono ?_); rintro e w67 ⟨rfl, hb⟩; have n0_ := Aside0.mk (below_step (by repeat (first | (with_reducible first | exact HB.out | apply below_alloc | apply pw_below_drewN | apply below_drew1) | exact HB.out)) hb); clear HB; have HB := n0_; clear n0_; (try clear hb); (try clear hb2); (try clear hk); (try clear hi)) | (go_at_call 27; (with_reducible refine (link_To.calls kj20 (wrap64 (Int.tmod (IntKind.u64.wrap (a1)) 8388608)) (wrap64 (Int.tmod (IntKind.u64.wrap (a3)) (IntKind.u64.wrap (wrap64 (t206 + 1))))) t209 _ A39.out).mono ?_); rintro e w68 ⟨rfl, hb⟩; have n0_ := Aside0.mk (below_step (by repeat (first | (with_reducible first | exact HB.out | apply below_alloc | apply pw_below_drewN | apply below_drew1) | exact HB.out)) hb); clear HB; have HB := n0_; clear n0_; (try clear hb); (try clear hb2); (try clear hk); (try clear hi)) | (go_at_call 28; (with_reducible refine (link_Marked.calls kj20 0 (wrap64 (Int.tmod (IntKind.u64.wrap (a1)) 8388608)) (wrap64 (Int.tmod (IntKind.u64.wrap (a3)) (IntKind.u64.wrap (wrap64 (t206 + 1))))) t210 _ A46.out).mono ?_); rintro e w69 ⟨rfl, hb⟩; have n0_ := Aside0.mk (below_step (by repeat (first | (with_reducible first | exact HB.out | apply below_alloc | apply pw_below_drewN | apply below_drew1) | exact HB.out)) hb); clear HB; have HB := n0_; clear n0_; (try clear hb); (try clear hb2); (try clear hk); (try clear hi)) | (go_at_call 26; (with_reducible refine (link_IsMarked.calls t203 false _ A54.out).mono ?_); rintro e w' ⟨rfl, ⟨nd, rfl⟩⟩) | (go_at_call 27; (with_reducible refine (link_To.calls kj20 1 (wrap64 (Int.tmod (IntKind.u64.wrap (a3)) (IntKind.u64.wrap (wrap64 (t206 + 1))))) t212 _ A62.out).mono ?_); rintro e w70 ⟨rfl, hb⟩; have n0_ := Aside0.mk (below_step (by repeat (first | (with_reducible first | exact HB.out | apply below_alloc | apply pw_below_drewN | apply below_drew1) | exact HB.out)) hb); clear HB; have HB := n0_; clear n0_; (try clear hb); (try clear hb2); (try clear hk); (try clear hi)) | (go_at_call 17; (with_reducible refine (link_Newer.calls kj20 t212 t203 t213 _ A63.out).mono ?_); rintro e w71 ⟨rfl, hb⟩; have n0_ := Aside0.mk (below_step (by repeat (first | (with_reducible first | exact HB.out | apply below_alloc | apply pw_below_drewN | apply below_drew1) | exact HB.out)) hb); clear HB; have HB := n0_; clear n0_; (try clear hb); (try clear hb2); (try clear hk); (try clear hi)))
                              go_ret
                              exact ⟨by first | rfl | (simp [errW_none, errW_some] <;> rfl) | (simp [*, errW_none, errW_some] <;> rfl), by repeat (first | (with_reducible first | exact HB.out | apply below_alloc | apply pw_below_drewN | apply below_drew1) | exact HB.out)⟩
                      · rw [if_neg c38] at H
                        have c38b0 : (t208 == (-1)) = false := beq_eq_false_iff_ne.mpr c38
                        have c38b1 : (t208 != (-1)) = true := bne_iff_ne.mpr c38
                        exact absurd ((Option.some.inj H).trans HR.out) (by decide)
                    · rw [if_neg c36] at H
                      have c36b0 : (t207 == 1) = false := beq_eq_false_iff_ne.mpr c36
                      have c36b1 : (t207 != 1) = true := bne_iff_ne.mpr c36
                      exact absurd ((Option.some.inj H).trans HR.out) (by decide)
                · rw [if_neg c32] at H
                  have c32b0 : (t204 == 0) = false := beq_eq_false_iff_ne.mpr c32
                  have c32b1 : (t204 != 0) = true := bne_iff_ne.mpr c32
                  replace H := Option.bind_eq_some_iff.mp H
                  obtain ⟨t205, A790, H⟩ := H
                  replace H : (some (t205 == 1099511627775)) = some r := H
                  have A79 := Aside0.mk A790
                  clear A790
                  obtain rfl := Option.some.inj H
                  go_wp2_with (first | ((with_reducible refine gate_callee (f := 15) rfl ?_); refine goesL_ (some 62) rfl rfl Try.func15 (by kernel_rfl) rfl #[.int .u64 a0, .int .i64 (wrap64 (Int.tmod (IntKind.u64.wrap (a1)) 8388608))] rfl (by (try simp only [List.map_toArray, List.map_cons, List.map_nil]); first | done | rfl | (simp only [List.length_drop, List.length_take]; rfl)) ?_; (with_reducible refine (link_Next.calls kj20 a0 (wrap64 (Int.tmod (IntKind.u64.wrap (a1)) 8388608)) t203 t204 _ A31.out).mono ?_); rintro e w80 ⟨rfl, hb⟩; refine ⟨_, rfl, ?_⟩; have n0_ := Aside0.mk (below_step (by repeat (first | (with_reducible first | exact HB.out | apply below_alloc | apply pw_below_drewN | apply below_drew1) | exact HB.out)) hb); clear HB; have HB := n0_; clear n0_; (try clear hb); (try clear hb2); (try clear hk); (try clear hi)) | ((with_reducible refine gate_callee (f := 25) rfl ?_); refine goesL_ (some 68) rfl rfl Try.func25 (by kernel_rfl) rfl #[.int .u64 a0] rfl (by (try simp only [List.map_toArray, List.map_cons, List.map_nil]); first | done | rfl | (simp only [List.length_drop, List.length_take]; rfl)) ?_; (with_reducible refine (link_Version.calls kj20 a0 t205 _ A79.out).mono ?_); rintro e w81 ⟨rfl, hb⟩; refine ⟨_, rfl, ?_⟩; have n0_ := Aside0.mk (below_step (by repeat (first | (with_reducible first | exact HB.out | apply below_alloc | apply pw_below_drewN | apply below_drew1) | exact HB.out)) hb); clear HB; have HB := n0_; clear n0_; (try clear hb); (try clear hb2); (try clear hk); (try clear hi)))
                  go_ret
                  exact ⟨by first | rfl | (simp [errW_none, errW_some] <;> rfl) | (simp [*, errW_none, errW_some] <;> rfl), by repeat (first | (with_reducible first | exact HB.out | apply below_alloc | apply pw_below_drewN | apply below_drew1) | exact HB.out)⟩
  · replace c6 := Bool.eq_false_iff.mpr c6
    subst c6
    have H1 : (some false) = some r := by rw [if_neg (show ¬ (false = true) by decide)] at H; exact H
    clear H
    have H := H1
    clear H1
    exact absurd ((Option.some.inj H).trans HR.out) (by decide)

end Go.Proofs.Ythdimjpofkapfaa.PLinkExact
