import Derived.Test.YtinmmnljicmppaaDoorVWWords
import Derived.SizedLaws
import Derived.ChangeSlices
import Derived.ChangeArms
import Derived.WideShapes
import Derived.ProofKit
/-
WHAT THE ARGUMENTS OF A LAW SAY: a value that reads as data of a type is of its kind (the words of the printed texts: Kd), its numbers fit, its lists are no longer than the reach.
-/
namespace Go.Proofs.YtinmmnljicmppaaDoor.Op
open Go Go.RowKit Go.Proofs.YtinmmnljicmppaaDoorW.PrintWords
set_option linter.unusedVariables false
def Opens (P : Program) (t : TypeId) {α : Type} (k : Kd α) (G : α → Prop) : Prop :=
 ∀ (H : Type) (enc : TypeId × Value → H) (w : World) (fuel : Nat) (cs : List Value) (d : DataW H) (ps : List MemPlace),
  DataW.trod enc P w 0 (fun _ => true) true fuel t cs = some (d, ps) → (∀ n ∈ d.weights P t, n ≤ reachBytes) → ∃ x, k.K w x cs ∧ G x
theorem opens_int {P : Program} {t : TypeId} {k : IntKind} (ht : P.underlying t = some (.int k)) : Opens P t (Kd.int k) (fun x => (Lit.int k x).wf = true) := by
 intro H enc w fuel cs d ps h _
 obtain ⟨n, rfl, _, hw⟩ := DataW.trod_int ht h
 exact ⟨n, rfl, hw⟩
theorem opens_iso {P : Program} {t : TypeId} {α β : Type} {k : Kd α} {G : α → Prop} (h : Opens P t k G) (f : β → α) (g : α → β) (hfg : ∀ a, f (g a) = a) : Opens P t (Kd.iso k f) (fun b => G (f b)) := by
 intro H enc w fuel cs d ps ht hsz
 obtain ⟨x, hx, hG⟩ := h H enc w fuel cs d ps ht hsz
 exact ⟨g x, by show k.K w (f (g x)) cs; rw [hfg]; exact hx, by show G (f (g x)); rw [hfg]; exact hG⟩
theorem weights_all {H : Type} {P : Program} {e : TypeId} {n : Nat} : ∀ {l : List (DataW H)} {d : DataW H}, d ∈ l → n ∈ d.weights P e → n ∈ DataW.weightsAll P e l
 | [], _, h, _ => by cases h
 | x :: l, d, h, hn => by
  rw [DataW.weightsAll]
  rcases List.mem_cons.1 h with rfl | h
  ·exact List.mem_append_left _ hn
  ·exact List.mem_append_right _ (weights_all h hn)
theorem choose_list {β : Type} {p : Nat → β → Prop} : ∀ (n : Nat), (∀ i, i < n → ∃ b, p i b) → ∃ l : List β, l.length = n ∧ ∀ i b, l[i]? = some b → p i b
 | 0, _ => ⟨[], rfl, fun i b h => by simp at h⟩
 | n + 1, h => by
  obtain ⟨l, hl, hp⟩ := choose_list n (fun i hi => h i (by omega))
  obtain ⟨b, hb⟩ := h n (by omega)
  refine ⟨l ++ [b], by simp [hl], fun i c hi => ?_⟩
  by_cases hin : i < n
  ·rw [List.getElem?_append_left (by omega)] at hi
   exact hp i c hi
  ·have hlt : i < (l ++ [b]).length := by
    refine Classical.byContradiction fun hc => ?_
    rw [List.getElem?_eq_none (by omega)] at hi
    cases hi
   have : i = n := by simp at hlt; omega
   subst this
   rw [List.getElem?_append_right (by omega), hl, Nat.sub_self] at hi
   simp at hi
   subst hi
   exact hb
theorem opens_slice {P : Program} {t e : TypeId} {α : Type} {k : Kd α} {G : α → Prop} (ht : P.underlying t = some (.slice e)) (hc : P.cellsOf e = k.sz) {B : Nat} (hB : P.bytesOf e = B) (h : Opens P e k G) :
  Opens P t (Kd.slice e k) (fun xs => xs.length ≤ maxLen ∧ xs.length * B ≤ 140737488351232 ∧ ∀ x ∈ xs, G x) := by
 intro H enc w fuel cs d ps hd hsz
 rcases DataW.trod_slice ht hd with ⟨rfl, _⟩ | ⟨a, len, cap, elems, rest, n, _, rfl, hx, _, hl, hm, hlen, hel, _, _⟩
 ·exact ⟨[], ⟨none, 0, rfl, Nat.le_refl _, rfl, by simp, fun h => absurd h (by simp)⟩, by simp [maxLen], by simp, fun x hx => by cases hx⟩
 ·simp only [Prod.mk.injEq] at hx
  obtain ⟨rfl, _⟩ := hx
  have hw : (elems.length + rest.length) * B ≤ reachBytes := by
   refine hsz _ ?_
   simp [DataW.weights, ht, hB]
  obtain ⟨l, hll, hlp⟩ := choose_list (p := fun i (x : α) => (∃ c, w.cells? 0 (a.add (i * P.cellsOf e)) (P.cellsOf e) = some c ∧ k.K w x c) ∧ G x) len (fun i hi => by
   have hi2 := hel i hi
   rw [List.getElem?_eq_getElem (by omega)] at hi2
   obtain ⟨c, hc1, hc2⟩ := Option.bind_eq_some_iff.1 hi2
   obtain ⟨x, hx1, hx2⟩ := h H enc w n c (elems[i]'(by omega)).1 (elems[i]'(by omega)).2 hc2 (fun m hm2 => hsz m (by
    simp only [DataW.weights, ht]
    refine List.mem_cons_of_mem _ (List.mem_append_left _ (weights_all (d := (elems[i]'(by omega)).1) ?_ hm2))
    exact List.mem_map.2 ⟨_, List.getElem_mem _, rfl⟩))
   exact ⟨x, ⟨c, hc1, hx1⟩, hx2⟩)
  refine ⟨l, ⟨some a, cap, by rw [hll], by omega, ?_⟩, by omega, ?_, fun x hx => ?_⟩
  ·refine ⟨rfl, by unfold maxLen at hm; omega, fun _ => ⟨a, rfl, fun j p hj => ?_⟩⟩
   obtain ⟨⟨c, h1, h2⟩, _⟩ := hlp j p hj
   obtain ⟨hb, hlc, hcell⟩ := World.cells?_some h1
   refine ⟨c, k.K_len h2, h2, fun i u hu => ?_⟩
   have hi : i < c.length := by
    refine Classical.byContradiction fun hc => ?_
    rw [List.getElem?_eq_none (by omega)] at hu
    cases hu
   have := hcell i (by omega)
   rw [hu] at this
   rw [← hc, ← add_add]
   exact this
  ·rw [hll]
   have : len * B ≤ (elems.length + rest.length) * B := Nat.mul_le_mul_right _ (by omega)
   unfold reachBytes at hw
   omega
  ·obtain ⟨i, hi, rfl⟩ := List.getElem_of_mem hx
   exact (hlp i _ (List.getElem?_eq_getElem hi)).2
def OpensF (P : Program) (fs : List Field) (o : Nat) {α : Type} (k : Kd α) (G : α → Prop) : Prop :=
 ∀ (H : Type) (enc : TypeId × Value → H) (w : World) (fuel : Nat) (cs : List Value) (xs : List (DataW H × List MemPlace)),
  cs.length = o + k.sz → (fs.mapM fun f => DataW.trod enc P w 0 (fun _ => true) true fuel f.type ((cs.drop f.offset).take (P.cellsOf f.type))) = some xs →
  (∀ n ∈ DataW.weightsEach P (fs.map (·.type)) (xs.map (·.1)), n ≤ reachBytes) → ∃ x, k.K w x (cs.drop o) ∧ G x
theorem opensF_one {P : Program} {f : Field} {o : Nat} {α : Type} {k : Kd α} {G : α → Prop} (ho : f.offset = o) (hc : P.cellsOf f.type = k.sz) (h : Opens P f.type k G) : OpensF P [f] o k G := by
 intro H enc w fuel cs xs hl hm hsz
 simp only [List.mapM_cons, List.mapM_nil, Option.pure_def, Option.bind_eq_bind, Option.bind_some, Option.bind_eq_some_iff, Option.some.injEq] at hm
 obtain ⟨y, hy, rfl⟩ := hm
 rw [ho, hc, List.take_of_length_le (by simp; omega)] at hy
 exact h H enc w fuel _ y.1 y.2 hy (fun n hn => hsz n (by simp [DataW.weightsEach, hn]))
theorem opensF_cons {P : Program} {f : Field} {fs : List Field} {o : Nat} {α β : Type} {a : Kd α} {b : Kd β} {G : α → Prop} {G' : β → Prop} (ho : f.offset = o) (hc : P.cellsOf f.type = a.sz) (h : Opens P f.type a G)
  (hr : OpensF P fs (o + a.sz) b G') : OpensF P (f :: fs) o (Kd.pair a b) (fun x => G x.1 ∧ G' x.2) := by
 intro H enc w fuel cs xs hl hm hsz
 have hs : (Kd.pair a b).sz = a.sz + b.sz := rfl
 rw [hs] at hl
 simp only [List.mapM_cons, Option.pure_def, Option.bind_eq_bind, Option.bind_eq_some_iff, Option.some.injEq] at hm
 obtain ⟨y, hy, ys, hys, rfl⟩ := hm
 rw [ho, hc] at hy
 obtain ⟨x, hx, hG⟩ := h H enc w fuel _ y.1 y.2 hy (fun n hn => hsz n (by simp [DataW.weightsEach, hn]))
 obtain ⟨x', hx', hG'⟩ := hr H enc w fuel cs ys (by omega) hys (fun n hn => hsz n (by simp only [List.map_cons, DataW.weightsEach]; exact List.mem_append_right _ hn))
 refine ⟨(x, x'), ⟨_, _, ?_, hx, hx'⟩, hG, hG'⟩
 rw [← List.drop_drop, List.take_append_drop]
theorem opens_struct {P : Program} {t : TypeId} {fs : Array Field} {α : Type} {k : Kd α} {G : α → Prop} (ht : P.underlying t = some (.struct fs)) (hc : P.cellsOf t = k.sz) (h : OpensF P fs.toList 0 k G) : Opens P t k G := by
 intro H enc w fuel cs d ps hd hsz
 cases fuel with
 | zero => simp [DataW.trod] at hd
 | succ n =>
  unfold DataW.trod at hd
  simp only [ht] at hd
  split at hd
  ·rename_i hl
   obtain ⟨xs, hxs, he⟩ := Option.map_eq_some_iff.1 hd
   simp only [Prod.mk.injEq] at he
   obtain ⟨rfl, _⟩ := he
   have := h H enc w n cs xs (by omega) hxs (fun m hm => hsz m (by simp only [DataW.weights, ht]; exact hm))
   simpa using this
  ·cases hd
theorem opens_at {P : Program} {ts : List TypeId} {H : Type} {ds : List (DataW H)} {j : Nat} {t : TypeId} {d : DataW H} (hsz : (DataW.weightsEach P ts ds).all (· ≤ reachBytes) = true) (ht : ts[j]? = some t) (hd : ds[j]? = some d) : ∀ n ∈ d.weights P t, n ≤ reachBytes := by
 intro n hn
 refine of_decide_eq_true (List.all_eq_true.1 hsz n ?_)
 clear hsz
 induction ts generalizing ds j with
 | nil => simp at ht
 | cons x ts ih =>
  cases ds with
  | nil => simp at hd
  | cons y ds =>
   rw [DataW.weightsEach]
   cases j with
   | zero =>
    simp at ht hd
    subst ht; subst hd
    exact List.mem_append_left _ hn
   | succ j => exact List.mem_append_right _ (ih (by simpa using ht) (by simpa using hd))
end Go.Proofs.YtinmmnljicmppaaDoor.Op
