/-
The reference's sort; a state of the program's beside one of the document's.
-/
import Derived.Test.YtcphmelmieedfabSpecH
import Derived.Test.YtcphmelmieedfabSpecI
import Derived.Test.YtcphmelmieedfabPSpecExactx2
namespace Go.Proofs.Ytcphmelmieedfab.PSpecExact
open Go Go.RowKit
set_option linter.unusedVariables false
set_option linter.unusedSimpArgs false
/-- The pair at a place. -/
def at57 (xs : List S57) (a : Nat) : S57 := xs.getD a z57
theorem rd57 (xs : List S57) (a : Nat) : rd_T57 xs (a : Int) = at57 xs a := rfl
theorem mem57 {xs : List S57} {y : S57} : y ∈ xs ↔ ∃ a, a < xs.length ∧ at57 xs a = y := by
  unfold at57
  constructor
  · intro h
    obtain ⟨a, ha, e⟩ := List.mem_iff_getElem.1 h
    exact ⟨a, ha, by rw [List.getD_eq_getElem?_getD, List.getElem?_eq_getElem ha]; exact e⟩
  · rintro ⟨a, ha, e⟩
    rw [List.getD_eq_getElem?_getD, List.getElem?_eq_getElem ha] at e
    exact List.mem_iff_getElem.2 ⟨a, ha, e⟩
/-- A pair and the one ahead of it change places. -/
def swp (xs : List S57) (j : Nat) : List S57 := (xs.set (j + 1) (at57 xs j)).set j (at57 xs (j + 1))
theorem swp_len (xs : List S57) (j : Nat) : (swp xs j).length = xs.length := by simp [swp]
theorem swp_at (xs : List S57) (j : Nat) (h : j + 1 < xs.length) (a : Nat) : at57 (swp xs j) a = if a = j then at57 xs (j + 1) else if a = j + 1 then at57 xs j else at57 xs a := by
  show ((xs.set (j + 1) (at57 xs j)).set j (at57 xs (j + 1))).getD a z57 = _
  rw [List.getD_eq_getElem?_getD, List.getElem?_set]
  by_cases e : j = a
  · subst e
    rw [if_pos rfl, if_pos (by simp; omega), if_pos rfl]; rfl
  · rw [if_neg e, if_neg (fun x => e x.symm), List.getElem?_set]
    by_cases e2 : j + 1 = a
    · subst e2
      rw [if_pos rfl, if_pos h, if_pos rfl]; rfl
    · rw [if_neg e2, if_neg (fun x => e2 x.symm)]
      unfold at57
      rw [List.getD_eq_getElem?_getD]
theorem swp_mem (xs : List S57) (j : Nat) (h : j + 1 < xs.length) (y : S57) : y ∈ swp xs j ↔ y ∈ xs := by
  rw [mem57, mem57, swp_len]
  constructor
  · rintro ⟨a, ha, e⟩
    rw [swp_at xs j h] at e
    by_cases e1 : a = j
    · rw [if_pos e1] at e; exact ⟨j + 1, h, e⟩
    · rw [if_neg e1] at e
      by_cases e2 : a = j + 1
      · rw [if_pos e2] at e; exact ⟨j, by omega, e⟩
      · rw [if_neg e2] at e; exact ⟨a, ha, e⟩
  · rintro ⟨a, ha, e⟩
    by_cases e1 : a = j
    · exact ⟨j + 1, h, by rw [swp_at xs j h, if_neg (by omega), if_pos rfl, ← e1]; exact e⟩
    · by_cases e2 : a = j + 1
      · exact ⟨j, by omega, by rw [swp_at xs j h, if_pos rfl, ← e2]; exact e⟩
      · exact ⟨a, ha, by rw [swp_at xs j h, if_neg e1, if_neg e2]; exact e⟩
/-- All keys are unlike. -/
def Unl (xs : List S57) : Prop := ∀ a b, a < xs.length → b < xs.length → a ≠ b → (at57 xs a).f0 ≠ (at57 xs b).f0
theorem swp_unl {xs : List S57} {j : Nat} (h : j + 1 < xs.length) (hu : Unl xs) : Unl (swp xs j) := by
  intro a b ha hb hab
  rw [swp_len] at ha hb
  have e : ∀ a, at57 (swp xs j) a = at57 xs (if a = j then j + 1 else if a = j + 1 then j else a) := fun a => by
    rw [swp_at xs j h]
    by_cases e1 : a = j
    · rw [if_pos e1, if_pos e1]
    · rw [if_neg e1, if_neg e1]
      by_cases e2 : a = j + 1
      · rw [if_pos e2, if_pos e2]
      · rw [if_neg e2, if_neg e2]
  rw [e, e]
  refine hu _ _ ?_ ?_ ?_
  · repeat' split
    all_goals omega
  · repeat' split
    all_goals omega
  · repeat' split
    all_goals omega
/-- The first so many pairs ascend. -/
def Asc (xs : List S57) (i : Nat) : Prop := ∀ a b, a < b → b < i → (at57 xs a).f0 < (at57 xs b).f0
/-- The first so many pairs ascend but for one, which is below all behind it. -/
def AscBut (xs : List S57) (i j : Nat) : Prop := (∀ a b, a < b → b < i → a ≠ j → b ≠ j → (at57 xs a).f0 < (at57 xs b).f0) ∧ ∀ b, j < b → b < i → (at57 xs j).f0 < (at57 xs b).f0
theorem eta57 (x : S57) : (⟨x.f0, x.f1⟩ : S57) = x := rfl
def SRes (xs ys : List S57) : Prop := Asc ys ys.length ∧ ys.length = xs.length ∧ ∀ y, y ∈ ys ↔ y ∈ xs
theorem sort_l1 (n i : Nat) (hn : n ≤ 4398046511104) (hi : i < n)
    (next : ∀ xs : List S57, xs.length = n → Unl xs → Asc xs (i + 1) → ∃ k ys, revenantref21_State_Sorted.l0 k xs ((i + 1 : Nat) : Int) = some ys ∧ SRes xs ys) :
    ∀ (j : Nat) (xs : List S57), j ≤ i → xs.length = n → Unl xs → AscBut xs (i + 1) j → ∃ k ys, revenantref21_State_Sorted.l1 k xs (i : Int) (j : Int) = some ys ∧ SRes xs ys
  | 0, xs, hj, hx, hu, hb => by
    obtain ⟨k, ys, h1, h2⟩ := next xs hx hu (fun a b hab hb2 => by
      by_cases e : a = 0
      · subst e; exact hb.2 b hab hb2
      · exact hb.1 a b hab hb2 e (by omega))
    refine ⟨k + 1, ys, ?_, h2⟩
    simp only [revenantref21_State_Sorted.l1]
    rw [if_neg (by omega), show wrap64 ((i : Int) + 1) = ((i + 1 : Nat) : Int) by unfold wrap64; omega]
    exact h1
  | j + 1, xs, hj, hx, hu, hb => by
    have ew : wrap64 (((j + 1 : Nat) : Int) - 1) = (j : Int) := by unfold wrap64; omega
    by_cases hlt : (at57 xs (j + 1)).f0 < (at57 xs j).f0
    · have hs : j + 1 < xs.length := by omega
      obtain ⟨k, ys, h1, h2, h3, h4⟩ := sort_l1 n i hn hi next j (swp xs j) (by omega) (by rw [swp_len]; exact hx) (swp_unl hs hu) (by
        refine ⟨fun a b hab hb2 ha hbj => ?_, fun b hjb hb2 => ?_⟩
        · rw [swp_at xs j hs, swp_at xs j hs, if_neg ha, if_neg hbj]
          by_cases ea : a = j + 1
          · rw [if_pos ea, if_neg (by omega)]
            exact hb.1 j b (by omega) hb2 (by omega) (by omega)
          · rw [if_neg ea]
            by_cases eb : b = j + 1
            · rw [if_pos eb]
              exact hb.1 a j (by omega) (by omega) (by omega) (by omega)
            · rw [if_neg eb]
              exact hb.1 a b hab hb2 ea eb
        · rw [swp_at xs j hs, swp_at xs j hs, if_pos rfl, if_neg (by omega)]
          by_cases eb : b = j + 1
          · rw [if_pos eb]; exact hlt
          · rw [if_neg eb]; exact hb.2 b (by omega) hb2)
      refine ⟨k + 1, ys, ?_, h2, by rw [h3, swp_len], fun y => (h4 y).trans (swp_mem xs j hs y)⟩
      simp only [revenantref21_State_Sorted.l1]
      rw [if_pos (by omega), if_pos (by omega), if_pos (by omega), ew, if_pos (by omega), if_pos (by omega), rd57, rd57, if_pos hlt]
      exact h1
    · obtain ⟨k, ys, h1, h2⟩ := next xs hx hu (fun a b hab hb2 => by
        have hne := hu (j + 1) j (by omega) (by omega) (by omega)
        by_cases ea : a = j + 1
        · subst ea; exact hb.2 b hab hb2
        · by_cases eb : b = j + 1
          · subst eb
            by_cases ej : a = j
            · subst ej; omega
            · have := hb.1 a j (by omega) (by omega) ea (by omega)
              omega
          · exact hb.1 a b hab hb2 ea eb)
      refine ⟨k + 1, ys, ?_, h2⟩
      simp only [revenantref21_State_Sorted.l1]
      rw [if_pos (by omega), if_pos (by omega), if_pos (by omega), ew, if_pos (by omega), if_pos (by omega), rd57, rd57, if_neg hlt, show wrap64 ((i : Int) + 1) = ((i + 1 : Nat) : Int) by unfold wrap64; omega]
      exact h1
theorem sort_l0 (n : Nat) (hn : n ≤ 4398046511104) : ∀ (d i : Nat) (xs : List S57), i + d = n → xs.length = n → Unl xs → Asc xs i → ∃ k ys, revenantref21_State_Sorted.l0 k xs (i : Int) = some ys ∧ SRes xs ys
  | 0, i, xs, hd, hx, hu, ha => by
    refine ⟨1, xs, ?_, ?_, rfl, fun _ => Iff.rfl⟩
    · simp only [revenantref21_State_Sorted.l0]
      rw [if_neg (by omega)]
    · rw [hx, ← hd]; exact ha
  | d + 1, i, xs, hd, hx, hu, ha => by
    obtain ⟨k, ys, h1, h2⟩ := sort_l1 n i hn (by omega) (fun zs hz hzu hza => sort_l0 n hn d (i + 1) zs (by omega) hz hzu hza) i xs (Nat.le_refl _) hx hu
      ⟨fun a b hab hb hai hbi => ha a b hab (by omega), fun b h1 h2 => by omega⟩
    refine ⟨k + 1, ys, ?_, h2⟩
    simp only [revenantref21_State_Sorted.l0]
    rw [if_pos (by omega)]
    exact h1
theorem sorted_some (xs : List S57) (hn : xs.length ≤ 4398046511104) (hu : Unl xs) : ∃ k ys, revenantref21_State_Sorted.f k xs = some ys ∧ SRes xs ys := by
  have start : ∃ k ys, revenantref21_State_Sorted.l0 k xs 1 = some ys ∧ SRes xs ys := by
    by_cases h0 : xs.length = 0
    · refine ⟨1, xs, ?_, ?_, rfl, fun _ => Iff.rfl⟩
      · simp only [revenantref21_State_Sorted.l0]
        rw [if_neg (by omega)]
      · intro a b _ hb; omega
    · exact sort_l0 xs.length hn (xs.length - 1) 1 xs (by omega) rfl hu (fun a b hab hb => by omega)
  obtain ⟨k, ys, h1, h2⟩ := start
  refine ⟨k, ys, ?_, h2⟩
  unfold revenantref21_State_Sorted.f
  simp only [Option.bind_some, List.nil_append, List.length_nil]
  rw [if_pos (by omega)]
  exact h1
end Go.Proofs.Ytcphmelmieedfab.PSpecExact

namespace Go.Proofs.Ytcphmelmieedfab.PSpecExact
open Go Go.RowKit
set_option linter.unusedVariables false
set_option linter.unusedSimpArgs false
def unc (p : S57) : S26 := ⟨p.f0, p.f1⟩
theorem unc_c (p : S26) : unc (c57 p) = p := rfl
theorem c_unc (p : S57) : c57 (unc p) = p := rfl
theorem lk_iff : ∀ {l : List S26}, Srt l → ∀ k v, lk l k = some v ↔ (⟨k, v⟩ : S26) ∈ l
  | [], _, k, v => by simp [lk]
  | x :: r, h, k, v => by
    simp only [lk]
    by_cases e : x.f0 = k
    · rw [if_pos e]
      constructor
      · intro hv
        injection hv with hv
        subst e hv
        simp
      · intro hm
        rcases List.mem_cons.1 hm with hm | hm
        · rw [← hm]
        · have := h.1 _ hm
          have e3 : (⟨k, v⟩ : S26).f0 = k := rfl
          omega
    · rw [if_neg e, lk_iff h.2 k v]
      constructor
      · intro hm; simp [hm]
      · intro hm
        rcases List.mem_cons.1 hm with hm | hm
        · exact absurd (by rw [← hm]) e
        · exact hm
theorem srt_ext {l r : List S26} (hl : Srt l) (hr : Srt r) (h : ∀ p, p ∈ l ↔ p ∈ r) : l = r := by
  refine lk_ext hl hr (fun k => ?_)
  cases hq : lk l k with
  | some v => exact ((lk_iff hr k v).2 ((h _).1 ((lk_iff hl k v).1 hq))).symm
  | none =>
    cases hz : lk r k with
    | none => rfl
    | some v =>
      have := (lk_iff hl k v).2 ((h _).2 ((lk_iff hr k v).1 hz))
      rw [hq] at this
      cases this
theorem srt_asc : ∀ {ys : List S57}, Asc ys ys.length → Srt (ys.map unc)
  | [], _ => trivial
  | x :: r, h => by
    refine ⟨fun y hy => ?_, srt_asc (fun a b hab hb => h (a + 1) (b + 1) (by omega) (by simp; omega))⟩
    obtain ⟨q, hq, e⟩ := List.mem_map.1 hy
    obtain ⟨a, ha, e2⟩ := mem57.1 hq
    have := h 0 (a + 1) (by omega) (by simp; omega)
    have e3 : at57 (x :: r) (a + 1) = at57 r a := rfl
    rw [e3, e2] at this
    rw [← e]
    exact this
/-- A state of the program's and one of the document's hold the same. -/
structure Rel (l : List S26) (u : List S57) : Prop where
  srt : Srt l
  unl : Unl u
  mem : ∀ p : S26, p ∈ l ↔ c57 p ∈ u
theorem Rel.nil : Rel [] [] := ⟨trivial, fun a b ha => by simp at ha, fun p => by simp⟩
theorem Rel.sorted {l : List S26} {u : List S57} (h : Rel l u) (hn : u.length ≤ 4398046511104) : (∃ k, revenantref21_State_Sorted.f k u = some (l.map c57)) ∧ u.length = l.length := by
  obtain ⟨k, ys, h1, h2, h3, h4⟩ := sorted_some u hn h.unl
  have e : ys.map unc = l := srt_ext (srt_asc h2) h.srt (fun p => by
    rw [h.mem p, ← h4]
    constructor
    · intro hp
      obtain ⟨q, hq, e⟩ := List.mem_map.1 hp
      rw [← e]; exact hq
    · intro hp
      exact List.mem_map.2 ⟨_, hp, rfl⟩)
  have e2 : ys = l.map c57 := by rw [← e, List.map_map]; exact (List.map_id _).symm
  exact ⟨⟨k, by rw [h1, e2]⟩, by rw [← h3, e2, List.length_map]⟩
def flt (u : List S57) (key : Int) : List S57 := u.filter (fun y => decide (y.f0 ≠ key))
theorem unl_nodup {u : List S57} (h : Unl u) {a b : S57} (ha : a ∈ u) (hb : b ∈ u) (e : a.f0 = b.f0) : a = b := by
  obtain ⟨i, hi, ei⟩ := mem57.1 ha
  obtain ⟨j, hj, ej⟩ := mem57.1 hb
  by_cases q : i = j
  · rw [← ei, ← ej, q]
  · exact absurd (by rw [ei, ej]; exact e) (h i j hi hj q)
theorem unl_pair {u : List S57} : Unl u ↔ u.Pairwise (fun a b => a.f0 ≠ b.f0) := by
  rw [List.pairwise_iff_getElem]
  have at_ : ∀ a (h : a < u.length), at57 u a = u[a] := fun a h => by unfold at57; rw [List.getD_eq_getElem?_getD, List.getElem?_eq_getElem h]; rfl
  constructor
  · intro h i j hi hj hij
    have := h i j hi hj (by omega)
    rwa [at_ i hi, at_ j hj] at this
  · intro h i j hi hj hij
    rw [at_ i hi, at_ j hj]
    rcases Nat.lt_or_ge i j with q | q
    · exact h i j hi hj q
    · exact (h j i hj hi (by omega)).symm
theorem Rel.without {l : List S26} {u : List S57} (h : Rel l u) (key : Int) : Rel (withoutV l key) (flt u key) := by
  have w := withoutV_lk h.srt key
  refine ⟨w.1, unl_pair.2 ((unl_pair.1 h.unl).filter _), fun p => ?_⟩
  obtain ⟨k, v⟩ := p
  rw [← lk_iff w.1 k v, w.2.2 k]
  unfold flt
  rw [List.mem_filter, ← h.mem ⟨k, v⟩, ← lk_iff h.srt k v]
  by_cases e : k = key
  · rw [if_pos e]; simp [c57, e]
  · rw [if_neg e]; simp [c57, e]
theorem Rel.with_ {l l' : List S26} {u : List S57} (h : Rel l u) (p : S26) (hs : Srt l') (hl : ∀ k, lk l' k = if k = p.f0 then some p.f1 else lk l k) : Rel l' (flt u p.f0 ++ [c57 p]) := by
  refine ⟨hs, unl_pair.2 ?_, fun q => ?_⟩
  · rw [List.pairwise_append]
    refine ⟨(unl_pair.1 h.unl).filter _, List.pairwise_singleton _ _, fun a ha b hb => ?_⟩
    rw [List.mem_singleton] at hb
    subst hb
    unfold flt at ha
    have := (List.mem_filter.1 ha).2
    simpa [c57] using this
  · obtain ⟨k, v⟩ := q
    rw [← lk_iff hs k v, hl k, List.mem_append, List.mem_singleton]
    unfold flt
    rw [List.mem_filter, ← h.mem ⟨k, v⟩, ← lk_iff h.srt k v]
    obtain ⟨pk, pv⟩ := p
    by_cases e : k = pk
    · subst e
      rw [if_pos rfl]
      simp [c57]
      exact ⟨fun h => h.symm, fun h => h.symm⟩
    · rw [if_neg e]
      simp [c57, e]
end Go.Proofs.Ytcphmelmieedfab.PSpecExact

namespace Go.Proofs.Ytcphmelmieedfab.PSpecExact
open Go Go.RowKit
set_option linter.unusedVariables false
set_option linter.unusedSimpArgs false
def getU (u : List S57) (key : Int) : Int × Bool := match u.find? (fun y => decide (y.f0 = key)) with | some y => (y.f1, true) | none => (0, false)
theorem drop57 (u : List S57) (i : Nat) (h : i < u.length) : u.drop i = at57 u i :: u.drop (i + 1) := by
  rw [List.drop_eq_getElem_cons h]
  unfold at57
  rw [List.getD_eq_getElem?_getD, List.getElem?_eq_getElem h]
  rfl
theorem get_l0 (u : List S57) (key : Int) (hn : u.length ≤ 4398046511104) : ∀ (d i : Nat), i + d = u.length → ∃ k, revenantref21_State_Get.l0 k key (i : Int) u = some (getU (u.drop i) key)
  | 0, i, hd => by
    refine ⟨1, ?_⟩
    simp only [revenantref21_State_Get.l0]
    rw [if_neg (by omega), List.drop_eq_nil_of_le (by omega)]
    rfl
  | d + 1, i, hd => by
    obtain ⟨k, hk⟩ := get_l0 u key hn d (i + 1) (by omega)
    refine ⟨k + 1, ?_⟩
    simp only [revenantref21_State_Get.l0]
    rw [if_pos (by omega), if_pos (by omega), rd57, drop57 u i (by omega)]
    unfold getU at hk ⊢
    rw [List.find?_cons]
    by_cases e : (at57 u i).f0 = key
    · rw [if_pos e, decide_eq_true e]
    · rw [if_neg e, decide_eq_false e, show wrap64 ((i : Int) + 1) = ((i + 1 : Nat) : Int) by unfold wrap64; omega]
      exact hk
theorem get_some (u : List S57) (key : Int) (hn : u.length ≤ 4398046511104) : ∃ k, revenantref21_State_Get.f k u key = some (getU u key) := by
  obtain ⟨k, hk⟩ := get_l0 u key hn u.length 0 (by omega)
  exact ⟨k, hk⟩
theorem Rel.get {l : List S26} {u : List S57} (h : Rel l u) (key : Int) : getU u key = ((lk l key).getD 0, (lk l key).isSome) := by
  unfold getU
  cases hf : u.find? (fun y => decide (y.f0 = key)) with
  | some y =>
    have h1 := List.mem_of_find?_eq_some hf
    have h2 : y.f0 = key := by simpa using List.find?_some hf
    have h3 : lk l key = some y.f1 := by
      rw [lk_iff h.srt, h.mem]
      have : c57 ⟨key, y.f1⟩ = y := by cases y; subst h2; rfl
      rw [this]; exact h1
    rw [h3]; rfl
  | none =>
    have h1 := List.find?_eq_none.1 hf
    have h3 : lk l key = none := by
      cases hq : lk l key with
      | none => rfl
      | some v =>
        have h4 := (h.mem _).1 ((lk_iff h.srt key v).1 hq)
        have := h1 _ h4
        simp [c57] at this
    rw [h3]; rfl
theorem without_l0 (u : List S57) (key : Int) (hn : u.length ≤ 4398046511104) : ∀ (d i : Nat) (acc : List S57), i + d = u.length → acc.length ≤ i → ∃ k, revenantref21_State_Without.l0 k key acc (i : Int) u = some (acc ++ flt (u.drop i) key)
  | 0, i, acc, hd, ha => by
    refine ⟨1, ?_⟩
    simp only [revenantref21_State_Without.l0]
    rw [if_neg (by omega), List.drop_eq_nil_of_le (by omega)]
    simp [flt]
  | d + 1, i, acc, hd, ha => by
    by_cases e : (at57 u i).f0 = key
    · obtain ⟨k, hk⟩ := without_l0 u key hn d (i + 1) acc (by omega) (by omega)
      refine ⟨k + 1, ?_⟩
      simp only [revenantref21_State_Without.l0]
      rw [if_pos (by omega), if_pos (by omega), rd57, if_pos e, drop57 u i (by omega), show wrap64 ((i : Int) + 1) = ((i + 1 : Nat) : Int) by unfold wrap64; omega, hk]
      simp [flt, e]
    · obtain ⟨k, hk⟩ := without_l0 u key hn d (i + 1) (acc ++ [at57 u i]) (by omega) (by simp; omega)
      refine ⟨k + 1, ?_⟩
      simp only [revenantref21_State_Without.l0]
      rw [if_pos (by omega), if_pos (by omega), rd57, if_neg e, if_pos (by omega), drop57 u i (by omega), show wrap64 ((i : Int) + 1) = ((i + 1 : Nat) : Int) by unfold wrap64; omega]
      refine hk.trans ?_
      simp [flt, e]
theorem without_some (u : List S57) (key : Int) (hn : u.length ≤ 4398046511104) : ∃ k, revenantref21_State_Without.f k u key = some (flt u key) := by
  obtain ⟨k, hk⟩ := without_l0 u key hn u.length 0 [] (by omega) (by simp)
  have h2 : revenantref21_State_Without.l0 k key [] 0 u = some (flt u key) := by simpa using hk
  exact ⟨k, h2⟩
theorem flt_len (u : List S57) (key : Int) : (flt u key).length ≤ u.length := List.length_filter_le _ _
theorem with_some (u : List S57) (p0 p1 : Int) (hn : u.length ≤ 4398046511104) : ∃ k, revenantref21_State_With.f k u p0 p1 = some (flt u p0 ++ [⟨p0, p1⟩]) := by
  obtain ⟨k, hk⟩ := without_some u p0 hn
  refine ⟨k, ?_⟩
  unfold revenantref21_State_With.f
  rw [hk, Option.bind_some, if_pos (by have := flt_len u p0; omega)]
end Go.Proofs.Ytcphmelmieedfab.PSpecExact

