/-
What an operation does to the document's state; its Do.
-/
import Derived.Test.YtcphmelmieedfabSpecM
namespace Go.Proofs.Ytcphmelmieedfab.PSpecExact
open Go Go.RowKit Go.Proofs.YtcphmelmieedfabW.PrintWords
set_option linter.unusedVariables false
set_option linter.unusedSimpArgs false
def putU (u : List S57) (p : S57) (b : Bool) (a : Int × Bool × Int) : List S57 × (Int × Bool × Int) × Int :=
  if b = true then (if (flt u p.f0 ++ [p]).length ≤ 16 then (flt u p.f0 ++ [p], a, 0) else ([], (0, false, 0), 6)) else (u, a, 0)
/-- What an operation does to the document's state. -/
def doU (u : List S57) (kd k v : Int) : List S57 × (Int × Bool × Int) × Int :=
  if kd = 1 then putU u ⟨k, 0⟩ (!(getU u k).2) (0, !(getU u k).2, 0) else if kd = 4 then putU u ⟨k, v⟩ true (0, (getU u k).2, (getU u k).1) else if kd = 5 then putU u ⟨k, v⟩ (!(getU u k).2) (0, !(getU u k).2, (getU u k).1)
  else if kd = 2 then (flt u k, (0, (getU u k).2, 0), 0) else if kd = 6 then (flt u k, (0, (getU u k).2, (getU u k).1), 0) else if kd = 3 then (u, (0, (getU u k).2, 0), 0) else if kd = 7 then (u, (0, (getU u k).2, (getU u k).1), 0)
  else if kd = 8 then (u, (0, true, 0), 0) else ([], (0, false, 0), 8)
theorem Rel.putU {s : List S26} {u : List S57} (h : Rel s u) (hs : s.length ≤ 16) (p : S26) (b : Bool) (a : Int × Bool × Int) :
    (putV s p b a).2 = (PSpecExact.putU u (c57 p) b a).2 ∧ Rel (putV s p b a).1 (PSpecExact.putU u (c57 p) b a).1 ∧ (putV s p b a).1.length ≤ 16 ∧ ((putV s p b a).2.2 ≠ 0 → (putV s p b a).1 = []) := by
  unfold putV PSpecExact.putU
  cases b with
  | false => rw [if_neg (by decide), if_neg (by decide)]; exact ⟨rfl, h, hs, fun e => absurd rfl e⟩
  | true =>
    rw [if_pos rfl, if_pos rfl]
    rcases h.put hs p with ⟨a1, a2, a3, a4⟩ | ⟨a1, a2, a3⟩
    · rw [if_pos a1, if_pos (show (flt u (c57 p).f0 ++ [c57 p]).length ≤ 16 from a3)]
      exact ⟨rfl, a2, a4, fun e => absurd rfl e⟩
    · rw [if_neg (by rw [a1]; decide), if_neg (show ¬ (flt u (c57 p).f0 ++ [c57 p]).length ≤ 16 by have e : (flt u (c57 p).f0 ++ [c57 p]).length = (flt u p.f0 ++ [c57 p]).length := rfl; omega), a1]
      exact ⟨rfl, Rel.nil, by simp, fun _ => rfl⟩
theorem Rel.doU {s : List S26} {u : List S57} (h : Rel s u) (hs : s.length ≤ 16) (kd k v : Int) :
    (doV s kd k v).2 = (PSpecExact.doU u kd k v).2 ∧ Rel (doV s kd k v).1 (PSpecExact.doU u kd k v).1 ∧ (doV s kd k v).1.length ≤ 16 ∧ ((doV s kd k v).2.2 ≠ 0 → (doV s kd k v).1 = []) := by
  have hg := h.get k
  have e1 : isF k s = (getU u k).2 := by rw [hg, isF_lk h.srt]
  have e2 : getV s k = (getU u k).1 := by rw [hg, getV_lk h.srt]
  have hw := withoutV_le s k hs
  unfold doV PSpecExact.doU
  rw [e1, e2]
  by_cases h1 : kd = 1
  · rw [if_pos h1, if_pos h1]; exact h.putU hs ⟨k, 0⟩ _ _
  rw [if_neg h1, if_neg h1]
  by_cases h4 : kd = 4
  · rw [if_pos h4, if_pos h4]; exact h.putU hs ⟨k, v⟩ _ _
  rw [if_neg h4, if_neg h4]
  by_cases h5 : kd = 5
  · rw [if_pos h5, if_pos h5]; exact h.putU hs ⟨k, v⟩ _ _
  rw [if_neg h5, if_neg h5]
  by_cases h2 : kd = 2
  · rw [if_pos h2, if_pos h2]; exact ⟨rfl, h.without k, hw, fun e => absurd rfl e⟩
  rw [if_neg h2, if_neg h2]
  by_cases h6 : kd = 6
  · rw [if_pos h6, if_pos h6]; exact ⟨rfl, h.without k, hw, fun e => absurd rfl e⟩
  rw [if_neg h6, if_neg h6]
  by_cases h3 : kd = 3
  · rw [if_pos h3, if_pos h3]; exact ⟨rfl, h, hs, fun e => absurd rfl e⟩
  rw [if_neg h3, if_neg h3]
  by_cases h7 : kd = 7
  · rw [if_pos h7, if_pos h7]; exact ⟨rfl, h, hs, fun e => absurd rfl e⟩
  rw [if_neg h7, if_neg h7]
  by_cases h8 : kd = 8
  · rw [if_pos h8, if_pos h8]; exact ⟨rfl, h, hs, fun e => absurd rfl e⟩
  rw [if_neg h8, if_neg h8]
  exact ⟨rfl, Rel.nil, by simp, fun _ => rfl⟩
/-- The reference's Do: its answer's row stands on its own, or is the argument's. -/
theorem doU_T (u : List S57) (A : Option Addr) (c : Nat) (kd k v z : Int) (B : Nat) (w : World) (hR : Kd.R k57 57 w B (fun _ => True) (.slice A u.length c) u) (hc : u.length ≤ c) (hB : B ≤ w.heap.size) (hl : u.length ≤ 16) :
    Calls Try.prog 10 #[.agg #[.slice A u.length c], .agg #[.int .i64 kd, .int .u64 k, .int .u64 v, .int .i64 z]] w fun e w' => ∃ v0_ : Value, e = .returned (.tuple #[.agg #[v0_], .agg (A3 (PSpecExact.doU u kd k v).2.1), .int .i64 (PSpecExact.doU u kd k v).2.2]) ∧ Kd.R k57 57 w' B (fun _ => True) v0_ (PSpecExact.doU u kd k v).1 ∧ Below w.heap.size w w' := by
  have hC := R_C57 hR
  obtain ⟨K, hG⟩ := get_some u k (by omega)
  have hfl := flt_len u k
  obtain ⟨g, b, hgb⟩ : ∃ g b, getU u k = (g, b) := ⟨_, _, rfl⟩
  rw [hgb] at hG
  obtain ⟨K2, hWo⟩ := without_some u k (by omega)
  obtain ⟨K3, hW0⟩ := with_some u k 0 (by omega)
  obtain ⟨K4, hWv⟩ := with_some u k v (by omega)
  unfold PSpecExact.doU PSpecExact.putU
  rw [hgb]
  have same : ∀ {a : Array Value} {q : Value} {e : Ending} {w' : World}, e = .returned (.tuple #[.agg #[.slice A u.length c], .agg a, q]) ∧ Below w.heap.size w w' → ∃ v0_ : Value, e = .returned (.tuple #[.agg #[v0_], .agg a, q]) ∧ Kd.R k57 57 w' B (fun _ => True) v0_ u ∧ Below w.heap.size w w' := fun h => ⟨_, h.1, Kd.R_below hR h.2, h.2⟩
  have newr : ∀ {a : Array Value} {q : Value} {e : Ending} {w' : World} {u2 : List S57}, (∃ v0_ : Value, e = .returned (.tuple #[.agg #[v0_], .agg a, q]) ∧ Kd.R k57 57 w' w.heap.size (fun _ => True) v0_ u2 ∧ Below w.heap.size w w') → ∃ v0_ : Value, e = .returned (.tuple #[.agg #[v0_], .agg a, q]) ∧ Kd.R k57 57 w' B (fun _ => True) v0_ u2 ∧ Below w.heap.size w w' := fun ⟨v0, h1, h2, h3⟩ => ⟨v0, h1, Kd.R_lower h2 hB, h3⟩
  have none_ : ∀ {a : Array Value} {q : Value} {e : Ending} {w' : World}, e = .returned (.tuple #[.agg #[.slice none 0 0], .agg a, q]) ∧ Below w.heap.size w w' → ∃ v0_ : Value, e = .returned (.tuple #[.agg #[v0_], .agg a, q]) ∧ Kd.R k57 57 w' B (fun _ => True) v0_ [] ∧ Below w.heap.size w w' := fun h => ⟨_, h.1, Kd.R_nil _ _ _ _ _, h.2⟩
  by_cases h1 : kd = 1
  · subst h1
    rw [if_pos rfl]
    cases b with
    | true => exact (rdo1t_T u A c k v z g K w hC hc hG hl).mono (fun e w' h => same h)
    | false =>
      by_cases hn : (flt u k ++ [(⟨k, 0⟩ : S57)]).length ≤ 16
      · simp only [Bool.not_false, if_true, if_pos hn]
        exact (rdo1f_T u _ A c k v z g K K3 w hC hc hG hW0 hn).mono (fun e w' h => newr h)
      · simp only [Bool.not_false, if_true, if_neg hn]
        exact (rdo1xf_T u _ A c k v z g K K3 w hC hc hG hW0 (by omega)).mono (fun e w' h => none_ h)
  rw [if_neg h1]
  by_cases h4 : kd = 4
  · subst h4
    rw [if_pos rfl, if_pos rfl]
    by_cases hn : (flt u k ++ [(⟨k, v⟩ : S57)]).length ≤ 16
    · simp only [if_pos hn]
      exact (rdo4_T u _ A c k v z g b K K4 w hC hc hG hWv hn).mono (fun e w' h => newr h)
    · simp only [if_neg hn]
      exact (rdo4x_T u _ A c k v z g b K K4 w hC hc hG hWv (by omega)).mono (fun e w' h => none_ h)
  rw [if_neg h4]
  by_cases h5 : kd = 5
  · subst h5
    rw [if_pos rfl]
    cases b with
    | true => exact (rdo5t_T u A c k v z g K w hC hc hG hl).mono (fun e w' h => same h)
    | false =>
      by_cases hn : (flt u k ++ [(⟨k, v⟩ : S57)]).length ≤ 16
      · simp only [Bool.not_false, if_true, if_pos hn]
        exact (rdo5f_T u _ A c k v z g K K4 w hC hc hG hWv hn).mono (fun e w' h => newr h)
      · simp only [Bool.not_false, if_true, if_neg hn]
        exact (rdo5xf_T u _ A c k v z g K K4 w hC hc hG hWv (by omega)).mono (fun e w' h => none_ h)
  rw [if_neg h5]
  by_cases h2 : kd = 2
  · subst h2
    rw [if_pos rfl]
    exact (rdo2_T u _ A c k v z g b K K2 w hC hc hG hWo (by omega)).mono (fun e w' h => newr h)
  rw [if_neg h2]
  by_cases h6 : kd = 6
  · subst h6
    rw [if_pos rfl]
    exact (rdo6_T u _ A c k v z g b K K2 w hC hc hG hWo (by omega)).mono (fun e w' h => newr h)
  rw [if_neg h6]
  by_cases h3 : kd = 3
  · subst h3
    rw [if_pos rfl]
    exact (rdo3_T u A c k v z g b K w hC hc hG hl).mono (fun e w' h => same h)
  rw [if_neg h3]
  by_cases h7 : kd = 7
  · subst h7
    rw [if_pos rfl]
    exact (rdo7_T u A c k v z g b K w hC hc hG hl).mono (fun e w' h => same h)
  rw [if_neg h7]
  by_cases h8 : kd = 8
  · subst h8
    rw [if_pos rfl]
    exact (rdo8_T u A c k v z g b K w hC hc hG hl).mono (fun e w' h => same h)
  rw [if_neg h8]
  exact (rdoN_T u A c kd k v z g b K w hC hc hG (by omega)).mono (fun e w' h => none_ h)
end Go.Proofs.Ytcphmelmieedfab.PSpecExact

