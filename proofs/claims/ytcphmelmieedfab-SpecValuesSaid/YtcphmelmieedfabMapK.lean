/-
MAPS, AS THEIR ENTRIES IN THE ORDER IN WHICH THEY CAME: what a look-up gives, what a store and a deletion leave.
-/
import Derived.Test.YtcphmelmieedfabWMore
import Derived.MapKept
import Derived.Maps.Keyed
import Derived.WideLaws
import Derived.RowKit
namespace Go.Proofs.Ytcphmelmieedfab.M
open Go Go.RowKit
set_option linter.unusedVariables false
set_option linter.unusedSectionVars false
section
variable {K V : Type} [DecidableEq K]
/-- Where a key stands first. -/
def idx (k : K) : List K → Option Nat
  | [] => none
  | a :: r => if k = a then some 0 else (idx k r).map (· + 1)
def get : List (K × V) → K → Option V
  | [], _ => none
  | p :: r, k => if k = p.1 then some p.2 else get r k
def put : List (K × V) → K → V → List (K × V)
  | [], k, v => [(k, v)]
  | p :: r, k, v => if k = p.1 then (k, v) :: r else p :: put r k v
def del : List (K × V) → K → List (K × V)
  | [], _ => []
  | p :: r, k => if k = p.1 then r else p :: del r k
theorem get_put (m : List (K × V)) (k : K) (v : V) (k' : K) : get (put m k v) k' = if k' = k then some v else get m k' := by
  induction m with
  | nil => simp only [put, get]
  | cons p r ih =>
    by_cases h : k = p.1
    · simp only [put, if_pos h, get]
      by_cases h' : k' = k
      · rw [if_pos h', if_pos h']
      · rw [if_neg h', if_neg h', if_neg (fun e => h' (e.trans h.symm))]
    · simp only [put, if_neg h, get, ih]
      by_cases h' : k' = p.1
      · rw [if_pos h', if_pos h', if_neg (fun e => h (e.symm.trans h'))]
      · rw [if_neg h', if_neg h']
theorem idx_lt {k : K} : ∀ {ks : List K} {i : Nat}, idx k ks = some i → i < ks.length
  | [], i, h => by cases h
  | a :: r, i, h => by
    simp only [idx] at h
    split at h
    · cases h; simp
    · obtain ⟨j, hj, rfl⟩ := Option.map_eq_some_iff.1 h
      have := idx_lt hj
      simp only [List.length_cons]; omega
theorem idx_none {k : K} : ∀ {ks : List K}, idx k ks = none → k ∉ ks
  | [], _, h => by cases h
  | a :: r, h, hm => by
    simp only [idx] at h
    split at h
    · cases h
    · rename_i hk
      rcases List.mem_cons.1 hm with e | e
      · exact hk e
      · exact idx_none (by simpa using h) e
theorem get_idx (m : List (K × V)) (k : K) : get m k = (idx k (m.map (·.1))).bind fun i => (m[i]?).map (·.2) := by
  induction m with
  | nil => rfl
  | cons p r ih =>
    simp only [get, List.map_cons, idx]
    split
    · rfl
    · rw [ih]
      cases idx k (r.map (·.1)) with
      | none => rfl
      | some j => rfl
theorem put_none {m : List (K × V)} {k : K} (h : idx k (m.map (·.1)) = none) (v : V) : put m k v = m ++ [(k, v)] := by
  induction m with
  | nil => rfl
  | cons p r ih =>
    simp only [List.map_cons, idx] at h
    split at h
    · cases h
    · rename_i hk
      simp only [put, if_neg hk, List.cons_append]
      rw [ih (by simpa using h)]
theorem put_some {m : List (K × V)} {k : K} : ∀ {i : Nat}, idx k (m.map (·.1)) = some i → ∀ v : V, put m k v = m.set i (k, v) := by
  induction m with
  | nil => intro i h; cases h
  | cons p r ih =>
    intro i h v
    simp only [List.map_cons, idx] at h
    split at h
    · rename_i hk
      cases h
      simp only [put, if_pos hk, List.set_cons_zero]
    · rename_i hk
      obtain ⟨j, hj, rfl⟩ := Option.map_eq_some_iff.1 h
      simp only [put, if_neg hk, List.set_cons_succ]
      rw [ih hj]
theorem del_none {m : List (K × V)} {k : K} (h : idx k (m.map (·.1)) = none) : del m k = m := by
  induction m with
  | nil => rfl
  | cons p r ih =>
    simp only [List.map_cons, idx] at h
    split at h
    · cases h
    · rename_i hk
      simp only [del, if_neg hk]
      rw [ih (by simpa using h)]
theorem del_some {m : List (K × V)} {k : K} : ∀ {i : Nat}, idx k (m.map (·.1)) = some i → del m k = m.eraseIdx i := by
  induction m with
  | nil => intro i h; cases h
  | cons p r ih =>
    intro i h
    simp only [List.map_cons, idx] at h
    split at h
    · rename_i hk
      cases h
      simp only [del, if_pos hk, List.eraseIdx_cons_zero]
    · rename_i hk
      obtain ⟨j, hj, rfl⟩ := Option.map_eq_some_iff.1 h
      simp only [del, if_neg hk, List.eraseIdx_cons_succ]
      rw [ih hj]
/-- The keys of a type: how they are written, and that Go finds them. -/
structure KeyOf (P : Program) (kt : TypeId) (ek : K → Value) : Prop where
  check : ∀ (b : Bool) (w : World) (k : K), (Instr.checkKey b 10000 kt (ek k)).run P w = .ok () w
  find : ∀ (w : World) (k : K) (ks : List K) (es : List MapEntry), es.map (·.key) = ks.map ek → (Instr.findKey kt (ek k) es).run P w = .ok ((idx k ks).bind fun j => (es[j]?).map fun e => (j, e.val)) w
  stays : ∀ (w : World) (k : K), (Instr.keyThatStays (ek k) (ek k)).run P w = .ok (ek k) w
  inj : ∀ k k' : K, ek k = ek k' → k = k'
def Ents (ek : K → Value) (ev : V → Value) (es : List MapEntry) (m : List (K × V)) : Prop := es.map (·.key) = m.map (fun p => ek p.1) ∧ es.map (·.val) = m.map (fun p => ev p.2)
/-- A map's block holds these entries. -/
def MapIs (ek : K → Value) (ev : V → Value) (w : World) (g : Nat) (m : List (K × V)) : Prop := ∃ es clock, w.heap[g]? = some (.map es clock) ∧ Ents ek ev es.toList m ∧ MapKept.Stamped es clock
variable {P : Program} {kt t e : TypeId} {ek : K → Value} {ev : V → Value} {w : World} {g : Nat} {m : List (K × V)}
theorem MapIs.lt (h : MapIs ek ev w g m) : g < w.heap.size := by
  obtain ⟨es, c, h, _⟩ := h
  exact (Array.getElem?_eq_some_iff.1 h).1
theorem MapIs.move {w1 : World} (h : MapIs ek ev w g m) (hw : w1.heap[g]? = w.heap[g]?) : MapIs ek ev w1 g m := by
  obtain ⟨es, c, h, he⟩ := h
  exact ⟨es, c, hw.trans h, he⟩
theorem MapIs.below {w1 : World} (h : MapIs ek ev w g m) (hb : Below w.heap.size w w1) : MapIs ek ev w1 g m := h.move (hb.block g h.lt)
theorem MapIs.new (w : World) : MapIs ek ev (w.alloc (.map #[] 0)) w.heap.size ([] : List (K × V)) := ⟨#[], 0, Go.Proofs.YtcphmelmieedfabW.PrintWords.blk_new w (.map #[] 0), ⟨rfl, rfl⟩, MapKept.stamped_empty 0⟩
theorem ents_keys {es : List MapEntry} (h : Ents ek ev es m) : es.map (·.key) = (m.map (·.1)).map ek := by rw [h.1, List.map_map]; rfl
theorem ents_val {es : List MapEntry} (h : Ents ek ev es m) (i : Nat) : (es[i]?).map (·.val) = (m[i]?).map fun p => ev p.2 := by
  have := congrArg (fun l => l[i]?) h.2
  simpa using this
theorem look (H : KeyOf P kt ek) (ht : P.underlying t = some (.map kt e)) (d : V) (hz : (zeroValue e).run P w = .ok (ev d) w) (hM : MapIs ek ev w g m) (k : K) :
    (Instr.lookup t (.map (some g)) (ek k) false).run P w = .ok (ev ((get m k).getD d)) w := by
  obtain ⟨es, c, hb, he, hst⟩ := hM
  have hf := H.find w k (m.map (·.1)) es.toList (ents_keys he)
  rw [get_idx]
  cases hi : idx k (m.map (·.1)) with
  | none =>
    rw [hi] at hf
    simp only [Option.bind_none] at hf
    simp [Instr.lookup, run_underlying ht, MapKept.run_getObj_map hb, H.check _ w, hf, hz, Result.andThen]
  | some i =>
    have hlt := idx_lt hi
    rw [List.length_map] at hlt
    have hv := ents_val he i
    have hlt2 : i < es.toList.length := by
      have := congrArg List.length he.1
      simp only [List.length_map] at this
      omega
    rw [List.getElem?_eq_getElem hlt, List.getElem?_eq_getElem hlt2] at hv
    simp only [Option.map_some, Option.some.injEq] at hv
    rw [hi] at hf
    simp only [Option.bind_some, List.getElem?_eq_getElem hlt2, Option.map_some, hv] at hf
    simp [Instr.lookup, run_underlying ht, MapKept.run_getObj_map hb, H.check _ w, hf, Result.andThen, List.getElem?_eq_getElem hlt]
theorem look_ok (H : KeyOf P kt ek) (ht : P.underlying t = some (.map kt e)) (d : V) (hz : (zeroValue e).run P w = .ok (ev d) w) (hM : MapIs ek ev w g m) (k : K) :
    (Instr.lookup t (.map (some g)) (ek k) true).run P w = .ok (.tuple #[ev ((get m k).getD d), .bool (get m k).isSome]) w := by
  obtain ⟨es, c, hb, he, hst⟩ := hM
  have hf := H.find w k (m.map (·.1)) es.toList (ents_keys he)
  rw [get_idx]
  cases hi : idx k (m.map (·.1)) with
  | none =>
    rw [hi] at hf
    simp only [Option.bind_none] at hf
    simp [Instr.lookup, run_underlying ht, MapKept.run_getObj_map hb, H.check _ w, hf, hz, Result.andThen]
  | some i =>
    have hlt := idx_lt hi
    rw [List.length_map] at hlt
    have hv := ents_val he i
    have hlt2 : i < es.toList.length := by
      have := congrArg List.length he.1
      simp only [List.length_map] at this
      omega
    rw [List.getElem?_eq_getElem hlt, List.getElem?_eq_getElem hlt2] at hv
    simp only [Option.map_some, Option.some.injEq] at hv
    rw [hi] at hf
    simp only [Option.bind_some, List.getElem?_eq_getElem hlt2, Option.map_some, hv] at hf
    simp [Instr.lookup, run_underlying ht, MapKept.run_getObj_map hb, H.check _ w, hf, Result.andThen, List.getElem?_eq_getElem hlt]
/-- A block is another one. -/
def setB (w : World) (g : Nat) (o : Obj) : World := { w with heap := w.heap.setIfInBounds g o }
theorem setB_far (w : World) (g : Nat) (o : Obj) (j : Nat) (h : j ≠ g) : (setB w g o).heap[j]? = w.heap[j]? := by
  simp only [setB]
  exact Array.getElem?_setIfInBounds_ne (Ne.symm h)
theorem setB_at (w : World) (g : Nat) (o : Obj) (h : g < w.heap.size) : (setB w g o).heap[g]? = some o := by
  simp only [setB]
  simp [h]
theorem setB_size (w : World) (g : Nat) (o : Obj) : (setB w g o).heap.size = w.heap.size := by simp [setB]
theorem setB_below {w0 : World} {base : Nat} (h : Below base w0 w) (hg : base ≤ g) (o : Obj) : Below base w0 (setB w g o) :=
  ⟨h.os, h.tape, h.output, by rw [setB_size]; exact h.size, fun i hi => by rw [setB_far w g o i (by omega)]; exact h.block i hi⟩
theorem upd (H : KeyOf P kt ek) (ht : P.underlying t = some (.map kt e)) (hM : MapIs ek ev w g m) (k : K) (v : V) :
    ∃ w', (Instr.mapUpdate t (.map (some g)) (ek k) (ev v)).run P w = .ok () w' ∧ MapIs ek ev w' g (put m k v) ∧ ∃ o, w' = setB w g o := by
  have hlt0 := hM.lt
  obtain ⟨es, c, hb, he, hst⟩ := hM
  have hf := H.find w k (m.map (·.1)) es.toList (ents_keys he)
  cases hi : idx k (m.map (·.1)) with
  | none =>
    rw [hi] at hf
    simp only [Option.bind_none] at hf
    refine ⟨setB w g (.map (es.push ⟨ek k, ev v, c⟩) (c + 1)), ?_, ⟨_, _, setB_at _ _ _ hlt0, ?_, MapKept.stamped_push hst (fun x hx e => ?_)⟩, _, rfl⟩
    · simp [Instr.mapUpdate, run_underlying ht, MapKept.run_getObj_map hb, H.check false w, hf, MapKept.run_setObj_map _ hb, Result.andThen, setB]
    · rw [put_none hi]
      exact ⟨by simp [he.1], by simp [he.2]⟩
    · have hm : x.key ∈ es.toList.map (·.key) := List.mem_map.2 ⟨x, hx, rfl⟩
      rw [ents_keys he] at hm
      obtain ⟨k', hk', e'⟩ := List.mem_map.1 hm
      have := H.inj _ _ (e'.trans e)
      subst this
      exact idx_none hi hk'
  | some i =>
    have hlt := idx_lt hi
    rw [List.length_map] at hlt
    have hlt2 : i < es.toList.length := by
      have := congrArg List.length he.1
      simp only [List.length_map] at this
      omega
    rw [hi] at hf
    simp only [Option.bind_some, List.getElem?_eq_getElem hlt2, Option.map_some] at hf
    have hkey : (es.toList[i]'hlt2).key = ek k := by
      have h1 := congrArg (fun l => l[i]?) he.1
      have h2 : (m[i]'hlt).1 = k := by
        have : ∀ (l : List K) (j : Nat), idx k l = some j → l[j]? = some k := by
          intro l
          induction l with
          | nil => intro j h; cases h
          | cons a r ih =>
            intro j h
            simp only [idx] at h
            split at h
            · rename_i ha
              cases h
              simp [ha]
            · obtain ⟨q, hq, rfl⟩ := Option.map_eq_some_iff.1 h
              simpa using ih q hq
        have := this _ _ hi
        rw [List.getElem?_map, List.getElem?_eq_getElem hlt] at this
        simpa using this
      simp only [List.getElem?_map, List.getElem?_eq_getElem hlt, List.getElem?_eq_getElem hlt2, Option.map_some, Option.some.injEq] at h1
      rw [h1, h2]
    have hj : es[i]? = some (es.toList[i]'hlt2) := by
      simp
    have hkey2 : (es[i]'(by simpa using hlt2)).key = ek k := by simpa using hkey
    refine ⟨setB w g (.map (es.modify i fun e' => { e' with key := ek k, val := ev v }) c), ?_, ⟨_, _, setB_at _ _ _ hlt0, ?_, MapKept.stamped_modify hst i _ (fun _ _ => rfl) (fun x _ hx => ?_)⟩, _, rfl⟩
    · simp [Instr.mapUpdate, run_underlying ht, MapKept.run_getObj_map hb, H.check false w, hf, hj, hkey2, H.stays w, MapKept.run_setObj_map _ hb, Result.andThen, setB]
    · rw [put_some hi]
      have hl : (es.modify i fun e' => { e' with key := ek k, val := ev v }).toList = es.toList.set i { es.toList[i]'hlt2 with key := ek k, val := ev v } := by
        rw [Array.toList_modify]
        exact Go.ChangeMaps.modify_eq_set _ _ _ _ (List.getElem?_eq_getElem hlt2)
      exact ⟨by rw [hl, List.map_set, List.map_set, he.1], by rw [hl, List.map_set, List.map_set, he.2]⟩
    · rw [hj] at hx
      injection hx with hx
      rw [← hx]
      exact hkey.symm
end
end Go.Proofs.Ytcphmelmieedfab.M
namespace Go.Proofs.Ytcphmelmieedfab.M
open Go Go.RowKit
set_option linter.unusedVariables false
set_option linter.unusedSectionVars false
set_option linter.unusedSimpArgs false
theorem findNow_int (k : Int) : ∀ (es : List MapEntry) (ks : List Int) (i : Nat), es.map (·.key) = ks.map (fun k : Int => Value.int .i64 k) →
    Instr.findNow (.int .i64) (.int .i64 k) es i = some ((idx k ks).bind fun j => (es[j]?).map fun e => (i + j, e.val)) := by
  intro es
  induction es with
  | nil =>
    intro ks i h
    cases ks with
    | nil => rfl
    | cons a r => simp at h
  | cons e es ih =>
    intro ks i h
    cases ks with
    | nil => simp at h
    | cons a r =>
      simp only [List.map_cons, List.cons.injEq] at h
      simp only [Instr.findNow, h.1, Instr.sameNow, if_true, idx]
      by_cases hk : k = a
      · subst hk
        simp
      · have hb : (k == a) = false := beq_eq_false_iff_ne.mpr hk
        simp only [hb, if_neg hk]
        rw [ih r (i + 1) h.2]
        cases idx k r with
        | none => rfl
        | some j =>
          simp only [Option.map_some, Option.bind_some, List.getElem?_cons_succ]
          cases es[j]? with
          | none => rfl
          | some x => simp only [Option.map_some, Nat.add_assoc, Nat.add_comm 1 j]
theorem keyOf_int {P : Program} {kt : TypeId} (ht : P.underlying kt = some (.int .i64)) : KeyOf P kt (fun k : Int => Value.int .i64 k) where
  check b w k := by
    rw [show (10000 : Nat) = 9999 + 1 from rfl, Instr.checkKey]
    simp [run_underlying ht, Result.andThen]
  find w k ks es h := by
    have := findNow_int k es ks 0 h
    simp only [Nat.zero_add] at this
    simp [Instr.findKey, run_underlying ht, this, Result.andThen]
  stays w k := by
    have : Instr.sameBits 10000 (.int .i64 k) (.int .i64 k) = true := by simp [Instr.sameBits]
    simp [Instr.keyThatStays, this]
  inj k k' e := by cases e; rfl
section
variable {K : Type} [DecidableEq K] {P : Program} {kt : TypeId} {ek : K → Value}
theorem findAsking_run (heq : ∀ (w : World) (k k' : K), (Op.equal kt (ek k) (ek k')).run P w = .ok (decide (k = k')) w) (w : World) (k : K) : ∀ (es : List MapEntry) (ks : List K) (i : Nat), es.map (·.key) = ks.map ek →
    (Instr.findAsking kt (ek k) es i).run P w = .ok ((idx k ks).bind fun j => (es[j]?).map fun e => (i + j, e.val)) w := by
  intro es
  induction es with
  | nil =>
    intro ks i h
    cases ks with
    | nil => simp [Instr.findAsking, idx]
    | cons a r => simp at h
  | cons e es ih =>
    intro ks i h
    cases ks with
    | nil => simp at h
    | cons a r =>
      simp only [List.map_cons, List.cons.injEq] at h
      by_cases hk : k = a
      · subst hk
        simp [Instr.findAsking, h.1, heq w k k, idx, Result.andThen]
      · have h2 := ih r (i + 1) h.2
        simp [Instr.findAsking, h.1, heq w k a, idx, hk, Result.andThen]
        rw [h2]
        cases idx k r with
        | none => rfl
        | some j =>
          simp only [Option.map_some, Option.bind_some, List.getElem?_cons_succ]
          cases es[j]? with
          | none => rfl
          | some x => simp only [Option.map_some, Nat.add_assoc, Nat.add_comm 1 j]
theorem keyOf_struct {fs : Array Field} (ht : P.underlying kt = some (.struct fs)) (hc : ∀ (b : Bool) (w : World) (k : K), (Instr.checkKey b 10000 kt (ek k)).run P w = .ok () w)
    (heq : ∀ (w : World) (k k' : K), (Op.equal kt (ek k) (ek k')).run P w = .ok (decide (k = k')) w) (hag : ∀ k : K, ∃ cs, ek k = .agg cs) (hs : ∀ k : K, Instr.sameBits 10000 (ek k) (ek k) = true) (hi : ∀ k k' : K, ek k = ek k' → k = k') : KeyOf P kt ek where
  check := hc
  find w k ks es h := by
    have h2 := findAsking_run heq w k es ks 0 h
    simp only [Nat.zero_add] at h2
    cases es with
    | nil =>
      cases ks with
      | nil => simp [Instr.findKey, run_underlying ht, Instr.findNow, idx, Result.andThen]
      | cons a r => simp at h
    | cons e es =>
      cases ks with
      | nil => simp at h
      | cons a r =>
        obtain ⟨c1, e1⟩ := hag k
        obtain ⟨c2, e2⟩ := hag a
        have h3 := h
        simp only [List.map_cons, List.cons.injEq] at h3
        have hn : Instr.findNow (.struct fs) (ek k) (e :: es) 0 = none := by
          simp only [Instr.findNow, h3.1, e1, e2, Instr.sameNow]
        simp only [Instr.findKey]
        simp [run_underlying ht, hn, Result.andThen]
        exact h2
  stays w k := by simp [Instr.keyThatStays, hs k]
  inj := hi
end
end Go.Proofs.Ytcphmelmieedfab.M
namespace Go.Proofs.Ytcphmelmieedfab.M
open Go Go.RowKit Go.Proofs.YtcphmelmieedfabW.PrintWords
set_option linter.unusedVariables false
set_option linter.unusedSimpArgs false
/-- All blocks that S doesn't name are as they were. -/
def Fr (S : Nat → Obj → Prop) (w w' : World) : Prop := w.heap.size ≤ w'.heap.size ∧ ∀ j o, w.heap[j]? = some o → ¬ S j o → w'.heap[j]? = some o
section
variable {S S' : Nat → Obj → Prop} {a b c : World}
theorem Fr.refl (S : Nat → Obj → Prop) (w : World) : Fr S w w := ⟨Nat.le_refl _, fun _ _ h _ => h⟩
theorem Fr.trans (h : Fr S a b) (k : Fr S b c) : Fr S a c := ⟨Nat.le_trans h.1 k.1, fun j o ho hs => k.2 j o (h.2 j o ho hs) hs⟩
theorem Fr.mono (h : Fr S a b) (hs : ∀ j o, S j o → S' j o) : Fr S' a b := ⟨h.1, fun j o ho hn => h.2 j o ho (fun x => hn (hs j o x))⟩
theorem Fr.drew (h : Fr S a b) : Fr S a b.drew := ⟨h.1, h.2⟩
theorem Fr.alloc (h : Fr S a b) (o : Obj) : Fr S a (b.alloc o) := h.trans ⟨by simp, fun j o' hj _ => blk_alloc hj o⟩
theorem Fr.below (h : Fr S a b) (hb : Below b.heap.size b c) : Fr S a c := h.trans ⟨hb.size, fun j o hj _ => blk_below hj hb⟩
theorem Fr.set (h : Fr S a b) {p : Addr} (hp : ∀ o, S p.block o) (u : Value) : Fr S a (b.setCell p u) := h.trans ⟨by simp [World.setCell], fun j o hj hs => (Below.heap_setCell b p u j (fun e => hs (by have e' : j = p.block := e; rw [e']; exact hp o))).trans hj⟩
theorem Fr.setBk (h : Fr S a b) {g : Nat} (hg : ∀ o, S g o) (o : Obj) : Fr S a (setB b g o) :=
  h.trans ⟨by rw [setB_size]; exact Nat.le_refl _, fun j o' hj hs => (setB_far b g o j (fun e => hs (by rw [e]; exact hg o'))).trans hj⟩
theorem Fr.grown (h : Fr S a b) {row : Option Nat} (hg : b.grownBy c row) (hr : ∀ k, row = some k → ∀ o, b.heap[k]? = some o → S k o) : Fr S a c :=
  h.trans ⟨hg.size, fun j o hj hs => (hg.block j (blk_lt hj) (fun e => hs (hr j e.symm o hj))).trans hj⟩
theorem Fr.ofF {S : Nat → Obj → Prop} (h : Fr (fun _ _ => False) a b) : Fr S a b := h.mono (fun _ _ x => x.elim)
theorem Fr.set1 {w : World} {g : Nat} {o : Obj} (hb : w.heap[g]? = some o) (i : Nat) (u : Value) : Fr (fun j o' => j = g ∧ o' = o) w (w.setCell ⟨g, i, none⟩ u) :=
  ⟨by simp [World.setCell], fun j o' hj hs => (Below.heap_setCell w ⟨g, i, none⟩ u j (fun e => hs ⟨e, by
    have e' : j = g := e
    subst e'
    rw [hb] at hj
    injection hj with hj
    exact hj.symm⟩)).trans hj⟩
theorem Fr.blk {w w' : World} (h : Fr S w w') {g : Nat} {o : Obj} (hb : w.heap[g]? = some o) (hs : ¬ S g o) : w'.heap[g]? = some o := h.2 g o hb hs
theorem MapIs.fr {K V : Type} {ek : K → Value} {ev : V → Value} {w w' : World} {g : Nat} {m : List (K × V)} (h : MapIs ek ev w g m) (hf : Fr S w w') (hs : ∀ o, ¬ S g o) : MapIs ek ev w' g m := by
  obtain ⟨es, cl, hb, he⟩ := h
  exact ⟨es, cl, hf.2 g _ hb (hs _), he⟩
/-- A row of whole numbers, made by an append. -/
def IsRow (e : TypeId) (o : Obj) : Prop := ∃ cells, o = .cells cells e (0, 0)
theorem row_fr {e : TypeId} {k : IntKind} {w w' : World} {base : Nat} {ok : Nat → Prop} {v : Value} {xs : List Int} (h : (Kd.int k).R e w base ok v xs) (hf : Fr S w w') (hs : ∀ j o, S j o → ¬ IsRow e o) : (Kd.int k).R e w' base ok v xs :=
  Kd.R_mono (Kd.R_move (Kd.R_bound h) (fun j hj => by
    obtain ⟨_, _, _, q, hq, cells, hc⟩ := hj
    have hq' : q = e := by simpa [Kd.int, Kd.scalar] using hq
    subst hq'
    exact (hf.2 j _ hc (fun x => hs j _ x ⟨cells, rfl⟩)).trans hc.symm)) (fun _ hk => hk.1)
end
end Go.Proofs.Ytcphmelmieedfab.M
namespace Go.Proofs.Ytcphmelmieedfab.M
open Go Go.RowKit Go.Proofs.YtcphmelmieedfabW.PrintWords
theorem Fr.setB1 {w : World} {g : Nat} {o : Obj} (hb : w.heap[g]? = some o) (o2 : Obj) : Fr (fun j o' => j = g ∧ o' = o) w (M.setB w g o2) :=
  ⟨by rw [setB_size]; exact Nat.le_refl _, fun j o' hj hs => (setB_far w g o2 j (fun e => hs ⟨e, by
    subst e
    rw [hb] at hj
    injection hj with hj
    exact hj.symm⟩)).trans hj⟩
theorem row_ok {e : TypeId} {k : IntKind} {w : World} {base : Nat} {ok : Nat → Prop} {v : Value} {xs : List Int} (h : (Kd.int k).R e w base ok v xs) : ∀ j, v.ownBlock = some j → ∀ o, w.heap[j]? = some o → IsRow e o := by
  intro j hj o ho
  obtain ⟨cells, hc⟩ := Kd.R_typed h j hj
  rw [hc] at ho
  injection ho with ho
  exact ⟨cells, ho.symm⟩
end Go.Proofs.Ytcphmelmieedfab.M
