import Derived.Test.YtinmmnljicmppaaDoorUWWords
import Derived.SizedLaws
import Derived.ChangeSlices
import Derived.ChangeArms
import Derived.WideShapes
import Derived.ProofKit
/-
WHAT THE ARGUMENTS OF A LAW SAY: a value that reads as data of a type is of its kind (the words of the printed texts: Kd), its numbers fit, its lists are no longer than the reach.
-/
namespace Go.Proofs.YtinmmnljicmppaaDoor.Op
open Go Go.RowKit Go.Proofs.YtinmmnljicmppaaDoorW.PrintWords
set_option linter.unusedVariables false
def Opens (P : Program) (t : TypeId) {α : Type} (k : Kd α) (G : α → Prop) : Prop :=
  ∀ (H : Type) (enc : TypeId × Value → H) (w : World) (fuel : Nat) (cs : List Value) (d : DataW H) (ps : List MemPlace),
    DataW.trod enc P w 0 (fun _ => true) true fuel t cs = some (d, ps) → (∀ n ∈ d.weights P t, n ≤ reachBytes) → ∃ x, k.K w x cs ∧ G x
theorem opens_int {P : Program} {t : TypeId} {k : IntKind} (ht : P.underlying t = some (.int k)) : Opens P t (Kd.int k) (fun x => (Lit.int k x).wf = true) := by
  intro H enc w fuel cs d ps h _
  obtain ⟨n, rfl, _, hw⟩ := DataW.trod_int ht h
  exact ⟨n, rfl, hw⟩
theorem opens_bool {P : Program} {t : TypeId} (ht : P.underlying t = some .bool) : Opens P t Kd.bool (fun _ => True) := by
  intro H enc w fuel cs d ps h _
  obtain ⟨n, rfl, _⟩ := DataW.trod_bool ht h
  exact ⟨n, rfl, trivial⟩
theorem opens_iso {P : Program} {t : TypeId} {α β : Type} {k : Kd α} {G : α → Prop} (h : Opens P t k G) (f : β → α) (g : α → β) (hfg : ∀ a, f (g a) = a) : Opens P t (Kd.iso k f) (fun b => G (f b)) := by
  intro H enc w fuel cs d ps ht hsz
  obtain ⟨x, hx, hG⟩ := h H enc w fuel cs d ps ht hsz
  exact ⟨g x, by show k.K w (f (g x)) cs; rw [hfg]; exact hx, by show G (f (g x)); rw [hfg]; exact hG⟩
def OpensF (P : Program) (fs : List Field) (o : Nat) {α : Type} (k : Kd α) (G : α → Prop) : Prop :=
  ∀ (H : Type) (enc : TypeId × Value → H) (w : World) (fuel : Nat) (cs : List Value) (xs : List (DataW H × List MemPlace)),
    cs.length = o + k.sz → (fs.mapM fun f => DataW.trod enc P w 0 (fun _ => true) true fuel f.type ((cs.drop f.offset).take (P.cellsOf f.type))) = some xs →
    (∀ n ∈ DataW.weightsEach P (fs.map (·.type)) (xs.map (·.1)), n ≤ reachBytes) → ∃ x, k.K w x (cs.drop o) ∧ G x
theorem opensF_one {P : Program} {f : Field} {o : Nat} {α : Type} {k : Kd α} {G : α → Prop} (ho : f.offset = o) (hc : P.cellsOf f.type = k.sz) (h : Opens P f.type k G) : OpensF P [f] o k G := by
  intro H enc w fuel cs xs hl hm hsz
  simp only [List.mapM_cons, List.mapM_nil, Option.pure_def, Option.bind_eq_bind, Option.bind_some, Option.bind_eq_some_iff, Option.some.injEq] at hm
  obtain ⟨y, hy, rfl⟩ := hm
  rw [ho, hc, List.take_of_length_le (by simp; omega)] at hy
  exact h H enc w fuel _ y.1 y.2 hy (fun n hn => hsz n (by simp [DataW.weightsEach, hn]))
theorem opensF_cons {P : Program} {f : Field} {fs : List Field} {o : Nat} {α β : Type} {a : Kd α} {b : Kd β} {G : α → Prop} {G' : β → Prop} (ho : f.offset = o) (hc : P.cellsOf f.type = a.sz) (h : Opens P f.type a G)
    (hr : OpensF P fs (o + a.sz) b G') : OpensF P (f :: fs) o (Kd.pair a b) (fun x => G x.1 ∧ G' x.2) := by
  intro H enc w fuel cs xs hl hm hsz
  have hs : (Kd.pair a b).sz = a.sz + b.sz := rfl
  rw [hs] at hl
  simp only [List.mapM_cons, Option.pure_def, Option.bind_eq_bind, Option.bind_eq_some_iff, Option.some.injEq] at hm
  obtain ⟨y, hy, ys, hys, rfl⟩ := hm
  rw [ho, hc] at hy
  obtain ⟨x, hx, hG⟩ := h H enc w fuel _ y.1 y.2 hy (fun n hn => hsz n (by simp [DataW.weightsEach, hn]))
  obtain ⟨x', hx', hG'⟩ := hr H enc w fuel cs ys (by omega) hys (fun n hn => hsz n (by simp only [List.map_cons, DataW.weightsEach]; exact List.mem_append_right _ hn))
  refine ⟨(x, x'), ⟨_, _, ?_, hx, hx'⟩, hG, hG'⟩
  rw [← List.drop_drop, List.take_append_drop]
theorem opens_struct {P : Program} {t : TypeId} {fs : Array Field} {α : Type} {k : Kd α} {G : α → Prop} (ht : P.underlying t = some (.struct fs)) (hc : P.cellsOf t = k.sz) (h : OpensF P fs.toList 0 k G) : Opens P t k G := by
  intro H enc w fuel cs d ps hd hsz
  cases fuel with
  | zero => simp [DataW.trod] at hd
  | succ n =>
    unfold DataW.trod at hd
    simp only [ht] at hd
    split at hd
    · rename_i hl
      obtain ⟨xs, hxs, he⟩ := Option.map_eq_some_iff.1 hd
      simp only [Prod.mk.injEq] at he
      obtain ⟨rfl, _⟩ := he
      have := h H enc w n cs xs (by omega) hxs (fun m hm => hsz m (by simp only [DataW.weights, ht]; exact hm))
      simpa using this
    · cases hd
theorem opens_at {P : Program} {ts : List TypeId} {H : Type} {ds : List (DataW H)} {j : Nat} {t : TypeId} {d : DataW H} (hsz : (DataW.weightsEach P ts ds).all (· ≤ reachBytes) = true) (ht : ts[j]? = some t) (hd : ds[j]? = some d) : ∀ n ∈ d.weights P t, n ≤ reachBytes := by
  intro n hn
  refine of_decide_eq_true (List.all_eq_true.1 hsz n ?_)
  clear hsz
  induction ts generalizing ds j with
  | nil => simp at ht
  | cons x ts ih =>
    cases ds with
    | nil => simp at hd
    | cons y ds =>
      rw [DataW.weightsEach]
      cases j with
      | zero =>
        simp at ht hd
        subst ht; subst hd
        exact List.mem_append_left _ hn
      | succ j => exact List.mem_append_right _ (ih (by simpa using ht) (by simpa using hd))
end Go.Proofs.YtinmmnljicmppaaDoor.Op
