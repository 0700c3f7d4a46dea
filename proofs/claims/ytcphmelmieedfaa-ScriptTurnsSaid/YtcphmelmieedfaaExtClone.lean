/-
slices.Clone at []int and at []Op: what is handed back reads as the argument.
-/
import Derived.WalkSpells
import Derived.Test.YtcphmelmieedfaaPScriptTurnsx0
namespace Go.Proofs.Ytcphmelmieedfaa.PScriptTurns
open Go.RowKit Go.Proofs.YtcphmelmieedfaaW.PrintWords Go.Proofs.YtcphmelmieedfaaW.PrintLast Go.Proofs.YtcphmelmieedfaaW.PrintMore
attribute [local go_sem] max2_int min2_int max_two min_two max_three min_three max_four min_four
set_option linter.unusedVariables false
set_option linter.unusedSimpArgs false
theorem infoC3 : (Try.prog.info? 3).map (fun i => (i.zero, i.size, i.bytes)) = some (some (.int .i64 0), 1, 8) := by kernel_rfl
theorem infoC37 : (Try.prog.info? 37).map (fun i => (i.zero, i.size, i.bytes)) = some (some (.agg #[(.int .i64 0), (.int .u64 0), (.int .u64 0), (.int .i64 0)]), 4, 32) := by kernel_rfl
theorem C_none {α : Type} {d : Kd α} {w : World} {n : Nat} {xs : List α} (h : Kd.C d w none n xs) : n = 0 ∧ xs = [] := by
  rcases Nat.eq_zero_or_pos n with h0 | h0
  · have := h.1
    exact ⟨h0, List.length_eq_zero_iff.1 (by omega)⟩
  · obtain ⟨ad, h, _⟩ := h.2.2 h0
    cases h
theorem R_empty {α : Type} (d : Kd α) (e : Nat) (W : World) (ok : Nat → Prop) (hf : ok W.heap.size) : d.R e (W.alloc (.cells #[] e)) W.heap.size ok (.slice (some ⟨W.heap.size, 0, none⟩) 0 0) [] := by
  refine ⟨fun k hk => ?_, [], ?_, Reps.none _ _⟩
  · have : W.heap.size = k := by simpa [Value.ownBlock] using hk
    subst this
    exact hf
  · have h2 := World.ownsRow_lit (base := W.heap.size) (e := e) (size := d.sz) W #[] 0 (Nat.le_refl _) (by simp [maxLen]) (by simp)
    simpa using h2
def slices_Clone_int.f (l0 : List Int) : Option (List Int) := if l0.length ≤ 17592186044416 then some l0 else none
set_option maxHeartbeats 8000000 in
set_option maxRecDepth 100000 in
theorem slices_Clone_int.calls (A0 : Option Addr) (c0 : Nat) (l0 : List Int) (r : List Int) (w : World) (hr0 : Kd.C (Kd.int .i64) w A0 l0.length l0) (hc0 : l0.length ≤ c0) (h : slices_Clone_int.f l0 = some r) :
    Calls Try.prog 52 #[.slice A0 l0.length c0] w fun e w' => ∃ v0_ : Value, e = .returned (v0_) ∧ Kd.R (Kd.int .i64) 3 w' w.heap.size (fun _ => True) v0_ r ∧ Below w.heap.size w w' := by
  unfold slices_Clone_int.f at h
  by_cases hl : l0.length ≤ 17592186044416
  · rw [if_pos hl] at h
    obtain rfl := Option.some.inj h
    have HL := Aside0.mk hl
    have HC := Aside0.mk hc0
    clear h hl hc0
    have hq := Lib.run_eql_slice_nil (P := Try.prog) (t := 40) (e := 3) (h := Try.underlying40)
    cases A0 with
    | none =>
      obtain ⟨h0, rfl⟩ := C_none hr0
      clear hr0
      go_enter Try.func52, Try.ntmps52
      go_wp2_with fail
      go_ret
      exact ⟨_, rfl, Kd.R_nil _ _ _ _ _, Below.refl _ _⟩
    | some ad =>
      have HR := Aside0.mk hr0
      clear hr0
      go_enter Try.func52, Try.ntmps52
      go_wp2_with (first | ((with_reducible refine gate_builtin (b := .append) (xs := #[.tmp 5, .tmp 6]) rfl ?_); at_builtin; refine Kd.R_append_rows (Kd.int .i64) (w0 := w) w.heap.size rfl (.tmp 5) (.tmp 6) 40 3 (.int .i64 0) 8 rfl Try.underlying40 infoC3 rfl (by decide) (by omega) (.slice (some ⟨w.heap.size, 0, none⟩) 0 0) [] l0 _ _ _ (fun _ => True) (fun _ => False) rfl rfl ?aO ?aR (fun _ _ h => h) (fun _ h => h.elim) ?aF ?aB ?aS ?aL ?_; (case aO => exact R_empty (Kd.int .i64) 3 w _ trivial); (case aR => exact Kd.C_below HR.out (below_alloc (Below.refl _ _) _)); (case aF => exact fun _ _ => trivial); (case aB => exact below_alloc (Below.refl _ _) _); (case aS => exact (below_alloc (Below.refl w.heap.size w) _).size); (case aL => exact (by have := HL.out; simp only [List.length_nil]; omega)); intro v1 w1 R1 B1 G1 O1))
      go_ret
      rw [List.nil_append] at R1
      exact ⟨_, rfl, R1, B1⟩
  · rw [if_neg hl] at h
    cases h
def slices_Clone_Op.f (l0 : List S37) : Option (List S37) := if l0.length ≤ 4398046511104 then some l0 else none
set_option maxHeartbeats 8000000 in
set_option maxRecDepth 100000 in
theorem slices_Clone_Op.calls (A0 : Option Addr) (c0 : Nat) (l0 : List S37) (r : List S37) (w : World) (hr0 : Kd.C k37 w A0 l0.length l0) (hc0 : l0.length ≤ c0) (h : slices_Clone_Op.f l0 = some r) :
    Calls Try.prog 53 #[.slice A0 l0.length c0] w fun e w' => ∃ v0_ : Value, e = .returned (v0_) ∧ Kd.R k37 37 w' w.heap.size (fun _ => True) v0_ r ∧ Below w.heap.size w w' := by
  unfold slices_Clone_Op.f at h
  by_cases hl : l0.length ≤ 4398046511104
  · rw [if_pos hl] at h
    obtain rfl := Option.some.inj h
    have HL := Aside0.mk hl
    have HC := Aside0.mk hc0
    clear h hl hc0
    have hq := Lib.run_eql_slice_nil (P := Try.prog) (t := 55) (e := 37) (h := Try.underlying55)
    cases A0 with
    | none =>
      obtain ⟨h0, rfl⟩ := C_none hr0
      clear hr0
      go_enter Try.func53, Try.ntmps53
      go_wp2_with fail
      go_ret
      exact ⟨_, rfl, Kd.R_nil _ _ _ _ _, Below.refl _ _⟩
    | some ad =>
      have HR := Aside0.mk hr0
      clear hr0
      go_enter Try.func53, Try.ntmps53
      go_wp2_with (first | ((with_reducible refine gate_builtin (b := .append) (xs := #[.tmp 5, .tmp 6]) rfl ?_); at_builtin; refine Kd.R_append_rows k37 (w0 := w) w.heap.size rfl (.tmp 5) (.tmp 6) 55 37 (.agg #[(.int .i64 0), (.int .u64 0), (.int .u64 0), (.int .i64 0)]) 32 rfl Try.underlying55 infoC37 rfl (by decide) (by omega) (.slice (some ⟨w.heap.size, 0, none⟩) 0 0) [] l0 _ _ _ (fun _ => True) (fun _ => False) rfl rfl ?aO ?aR (fun _ _ h => h) (fun _ h => h.elim) ?aF ?aB ?aS ?aL ?_; (case aO => exact R_empty k37 37 w _ trivial); (case aR => exact Kd.C_below HR.out (below_alloc (Below.refl _ _) _)); (case aF => exact fun _ _ => trivial); (case aB => exact below_alloc (Below.refl _ _) _); (case aS => exact (below_alloc (Below.refl w.heap.size w) _).size); (case aL => exact (by have := HL.out; simp only [List.length_nil]; omega)); intro v1 w1 R1 B1 G1 O1))
      go_ret
      rw [List.nil_append] at R1
      exact ⟨_, rfl, R1, B1⟩
  · rw [if_neg hl] at h
    cases h
end Go.Proofs.Ytcphmelmieedfaa.PScriptTurns

