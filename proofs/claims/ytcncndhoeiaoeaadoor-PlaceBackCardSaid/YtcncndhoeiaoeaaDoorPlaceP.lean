/-
Places: what their functions compute.
-/
import Derived.Test.YtcncndhoeiaoeaaDoorPPlaceExactx3
import Derived.Test.YtcncndhoeiaoeaaDoorPPlaceExactx4
import Derived.Test.YtcncndhoeiaoeaaDoorPPlaceExactx9
import Derived.Test.YtcncndhoeiaoeaaDoorWords
namespace Go.Proofs.YtcncndhoeiaoeaaDoor.PPlaceExact
open Go Go.RowKit Go.Proofs.YtcncndhoeiaoeaaDoorW.PrintWords Go.Proofs.YtcncndhoeiaoeaaDoorW.PrintLast Go.Proofs.YtcncndhoeiaoeaaDoorW.PrintMore Go.Proofs.YtcncndhoeiaoeaaDoor.U
set_option linter.unusedVariables false
/-- The error of a structure. -/
def CheckV (a b c d e : Int) : Int :=
  if a < 1 ∨ 3 < a then 8
  else if b < 1 ∨ 8388607 < b ∨ e < 2 ∨ 1099511627775 < e ∨ (a = 2 ∧ (c < 1 ∨ 64 < c)) ∨ (a ≠ 2 ∧ c ≠ 0) ∨ (a = 3 ∧ (d < 1 ∨ 16 < d)) ∨ (a ≠ 3 ∧ d ≠ 1) then 3 else 0
theorem within_f (a b c : Int) : conf_within.f a b c = some (decide (b ≤ a ∧ a ≤ c)) := by
  unfold conf_within.f
  by_cases h : a ≥ b
  · rw [if_pos h]; simp [h]
  · rw [if_neg h]; simp; omega
theorem check_f {k : Nat} (hk : 1 ≤ k) (a b c d e : Int) : conf_Check.f k a b c d e = some (CheckV a b c d e) := by
  obtain ⟨k, rfl⟩ : ∃ m, k = m + 1 := ⟨k - 1, by omega⟩
  unfold conf_Check.f conf_sizes.f
  simp only [within_f]
  by_cases h1 : a = 1
  · subst h1
    simp only [if_true, Option.bind_some, conf_Check.j0, within_f, CheckV]
    grind
  · by_cases h2 : a = 2
    · subst h2
      simp only [if_true, Option.bind_some, conf_Check.j0, within_f, CheckV]
      grind
    · by_cases h3 : a = 3
      · subst h3
        simp only [if_true, Option.bind_some, conf_Check.j0, within_f, CheckV]
        grind
      · simp only [h1, h2, h3, if_false, Option.bind_some, Bool.false_eq_true, CheckV]
        rw [if_pos (by omega)]
theorem check_zero {a b c d e : Int} (h : CheckV a b c d e = 0) : (a = 1 ∨ a = 2 ∨ a = 3) ∧ 1 ≤ b ∧ b ≤ 8388607 ∧ 2 ≤ e ∧ e ≤ 1099511627775 ∧ (a = 2 → 1 ≤ c ∧ c ≤ 64) ∧ (a ≠ 2 → c = 0) ∧ (a = 3 → 1 ≤ d ∧ d ≤ 16) ∧ (a ≠ 3 → d = 1) := by
  unfold CheckV at h
  split at h
  · omega
  · split at h
    · omega
    · omega
theorem check_cases (a b c d e : Int) : CheckV a b c d e = 0 ∨ CheckV a b c d e = 3 ∨ CheckV a b c d e = 8 := by
  unfold CheckV
  split
  · omega
  · split <;> omega
end Go.Proofs.YtcncndhoeiaoeaaDoor.PPlaceExact

namespace Go.Proofs.YtcncndhoeiaoeaaDoor.PPlaceExact
open Go Go.RowKit Go.Proofs.YtcncndhoeiaoeaaDoorW.PrintWords Go.Proofs.YtcncndhoeiaoeaaDoorW.PrintLast Go.Proofs.YtcncndhoeiaoeaaDoorW.PrintMore Go.Proofs.YtcncndhoeiaoeaaDoor.U
set_option linter.unusedVariables false
theorem rcheck_f {k : Nat} (hk : 3 ≤ k) (a b c d e : Int) : revenantref03_Check.f k a b c d e = some (CheckV a b c d e) := by
  obtain ⟨k, rfl⟩ : ∃ m, k = m + 3 := ⟨k - 3, by omega⟩
  unfold revenantref03_Check.f CheckV
  simp only [revenantref03_Check.j0, revenantref03_Check.j1, revenantref03_Check.j2]
  grind
end Go.Proofs.YtcncndhoeiaoeaaDoor.PPlaceExact

namespace Go.Proofs.YtcncndhoeiaoeaaDoor.PPlaceExact
open Go Go.RowKit Go.Proofs.YtcncndhoeiaoeaaDoorW.PrintWords Go.Proofs.YtcncndhoeiaoeaaDoorW.PrintLast Go.Proofs.YtcncndhoeiaoeaaDoorW.PrintMore Go.Proofs.YtcncndhoeiaoeaaDoor.U
set_option linter.unusedVariables false
set_option linter.unusedSimpArgs false
def RootsV (a b c d e : Int) : Int := if CheckV a b c d e = 0 then (if a = 2 then c else d) else 0
def CellsV (a b c d e : Int) : Int := if CheckV a b c d e = 0 then 7 + d else 0
/-- Roots, cells and slots of what can be. -/
structure OkB (R C b : Int) : Prop where
  r1 : 1 ≤ R
  r2 : R ≤ 64
  c1 : 8 ≤ C
  c2 : C ≤ 23
  b1 : 1 ≤ b
  b2 : b ≤ 8388607
theorem okb (a b c d e : Int) : (CheckV a b c d e ≠ 0 ∧ RootsV a b c d e = 0) ∨ (CheckV a b c d e = 0 ∧ CellsV a b c d e = 7 + d ∧ OkB (RootsV a b c d e) (CellsV a b c d e) b) := by
  by_cases h : CheckV a b c d e = 0
  · right
    obtain ⟨h1, h2, h3, h4, h5, h6, h7, h8, h9⟩ := check_zero h
    unfold RootsV CellsV
    rw [if_pos h, if_pos h]
    refine ⟨h, rfl, ?_, ?_, ?_, ?_, ?_, ?_⟩
    all_goals (try split) <;> omega
  · exact .inl ⟨h, if_neg h⟩
theorem roots_f {n : Nat} (hn : 1 ≤ n) (a b c d e : Int) : conf_Roots.f n a b c d e = some (RootsV a b c d e) := by
  unfold conf_Roots.f RootsV
  rw [check_f hn]
  simp only [bsome]
  split <;> (try split) <;> rfl
theorem cells_f {n : Nat} (hn : 1 ≤ n) (a b c d e : Int) : conf_Cells.f n a b c d e = some (CellsV a b c d e) := by
  unfold conf_Cells.f CellsV
  rw [check_f hn]
  simp only [bsome]
  by_cases h : CheckV a b c d e = 0
  · obtain ⟨h1, h2, h3, h4, h5, h6, h7, h8, h9⟩ := check_zero h
    rw [if_pos h, if_pos h, show wrap64 (7 + d) = 7 + d by unfold wrap64; omega]
  · rw [if_neg h, if_neg h]
theorem rroots_f {n : Nat} (hn : 3 ≤ n) (a b c d e : Int) : revenantref03_Roots.f n a b c d e = some (RootsV a b c d e) := by
  unfold revenantref03_Roots.f RootsV
  rw [rcheck_f hn]
  simp only [bsome]
  split <;> (try split) <;> first | rfl | (simp_all; done)
def NumV (R C b k s p : Int) : Int × Bool :=
  if R = 0 then (0, false) else if 1 ≤ k ∧ k ≤ 3 ∧ s = 0 ∧ p = 0 then (k - 1, true) else if k = 4 ∧ s = 0 ∧ 0 ≤ p ∧ p < R then (3 + p, true)
  else if k = 5 ∧ 1 ≤ s ∧ s ≤ b ∧ 0 ≤ p ∧ p < C then (3 + R + (s - 1) * C + p, true) else (0, false)
theorem num_no {R C b k s p : Int} (h : ¬ (NumV R C b k s p).2 = true) : (NumV R C b k s p).1 = 0 := by
  unfold NumV at h ⊢
  by_cases h0 : R = 0
  · rw [if_pos h0]
  · rw [if_neg h0] at h ⊢
    by_cases h1 : 1 ≤ k ∧ k ≤ 3 ∧ s = 0 ∧ p = 0
    · rw [if_pos h1] at h; exact absurd rfl h
    · rw [if_neg h1] at h ⊢
      by_cases h2 : k = 4 ∧ s = 0 ∧ 0 ≤ p ∧ p < R
      · rw [if_pos h2] at h; exact absurd rfl h
      · rw [if_neg h2] at h ⊢
        by_cases h3 : k = 5 ∧ 1 ≤ s ∧ s ≤ b ∧ 0 ≤ p ∧ p < C
        · rw [if_pos h3] at h; exact absurd rfl h
        · rw [if_neg h3]
def CountV (R C b : Int) : Int := if R = 0 then 0 else 3 + R + b * C
def AtV (R C b n : Int) : Int × Int × Int × Bool :=
  if n < 0 ∨ CountV R C b ≤ n then (0, 0, 0, false) else if n < 3 then (1 + n, 0, 0, true) else if n < 3 + R then (4, 0, n - 3, true)
  else (5, 1 + (n - (3 + R)) / C, (n - (3 + R)) % C, true)
theorem mulb {R C b : Int} (h : OkB R C b) {s : Int} (h1 : 1 ≤ s) (h2 : s ≤ b) : 0 ≤ (s - 1) * C ∧ (s - 1) * C + C ≤ b * C ∧ b * C ≤ 192937961 := by
  obtain ⟨r1, r2, c1, c2, b1, b2⟩ := h
  have e1 := Int.mul_nonneg (show 0 ≤ s - 1 by omega) (show 0 ≤ C by omega)
  have e2 := Int.mul_le_mul_of_nonneg_right (show s ≤ b from h2) (show 0 ≤ C by omega)
  have e3 := Int.mul_le_mul b2 c2 (show 0 ≤ C by omega) (show (0 : Int) ≤ 8388607 by omega)
  have e4 : (s - 1) * C = s * C - C := by rw [Int.sub_mul, Int.one_mul]
  omega
theorem number_f {n : Nat} (hn : 4 ≤ n) (a b c d e k s p : Int) : place_Number.f n a b c d e k s p = some (NumV (RootsV a b c d e) (CellsV a b c d e) b k s p) := by
  obtain ⟨n, rfl⟩ : ∃ m, n = m + 4 := ⟨n - 4, by omega⟩
  unfold place_Number.f
  rw [roots_f (by omega), cells_f (by omega)]
  simp only [bsome]
  have ho := okb a b c d e
  generalize RootsV a b c d e = R at *
  generalize CellsV a b c d e = C at *
  unfold NumV
  rcases ho with ⟨_, hz⟩ | ⟨_, _, ho⟩
  · rw [if_pos hz, if_pos hz]
  · have hR : ¬ R = 0 := by have := ho.r1; omega
    rw [if_neg hR, if_neg hR]
    simp only [place_Number.j0, place_Number.j1]
    have w1 : 1 ≤ k → k ≤ 3 → wrap64 (k - 1) = k - 1 := fun h1 h2 => by unfold wrap64; omega
    have w2 : 0 ≤ p → p < R → wrap64 (3 + p) = 3 + p := fun h1 h2 => by have := ho.r2; unfold wrap64; omega
    have w3 : 1 ≤ s → s ≤ b → 0 ≤ p → p < C → wrap64 (wrap64 (wrap64 (3 + R) + wrap64 (wrap64 (s - 1) * C)) + p) = 3 + R + (s - 1) * C + p := fun h1 h2 h3 h4 => by
      obtain ⟨m1, m2, m3⟩ := mulb ho h1 h2
      obtain ⟨r1, r2, c1, c2, b1, b2⟩ := ho
      rw [show wrap64 (s - 1) = s - 1 by unfold wrap64; omega]
      generalize (s - 1) * C = z at *
      rw [show wrap64 z = z by unfold wrap64; omega, show wrap64 (3 + R) = 3 + R by unfold wrap64; omega, show wrap64 (3 + R + z) = 3 + R + z by unfold wrap64; omega]
      unfold wrap64; omega
    generalize wrap64 (wrap64 (wrap64 (3 + R) + wrap64 (wrap64 (s - 1) * C)) + p) = z3 at *
    generalize wrap64 (3 + p) = z2 at *
    generalize wrap64 (k - 1) = z1 at *
    generalize (s - 1) * C = z4 at *
    clear ho
    grind
theorem count_f {n : Nat} (hn : 1 ≤ n) (a b c d e : Int) : place_Count.f n a b c d e = some (CountV (RootsV a b c d e) (CellsV a b c d e) b) := by
  unfold place_Count.f
  rw [roots_f hn, cells_f hn]
  simp only [bsome]
  have ho := okb a b c d e
  generalize RootsV a b c d e = R at *
  generalize CellsV a b c d e = C at *
  unfold CountV
  rcases ho with ⟨_, hz⟩ | ⟨_, _, ho⟩
  · rw [if_pos hz, if_pos hz]
  · have hR : ¬ R = 0 := by have := ho.r1; omega
    rw [if_neg hR, if_neg hR]
    obtain ⟨m1, m2, m3⟩ := mulb ho ho.b1 (Int.le_refl _)
    obtain ⟨m4, m5, m6⟩ := mulb ho (s := 1) (Int.le_refl _) ho.b1
    obtain ⟨r1, r2, c1, c2, b1, b2⟩ := ho
    have e4 : (b - 1) * C = b * C - C := by rw [Int.sub_mul, Int.one_mul]
    generalize b * C = z at *
    rw [show wrap64 z = z by unfold wrap64; omega, show wrap64 (3 + R) = 3 + R by unfold wrap64; omega, show wrap64 (3 + R + z) = 3 + R + z by unfold wrap64; omega]
theorem count_b {R C b : Int} (h : OkB R C b) : CountV R C b = 3 + R + b * C ∧ C ≤ b * C ∧ b * C ≤ 192937961 := by
  have hR : ¬ R = 0 := by have := h.r1; omega
  obtain ⟨m4, m5, m6⟩ := mulb h (s := 1) (Int.le_refl _) h.b1
  refine ⟨if_neg hR, by omega, m6⟩
theorem at_f {n : Nat} (hn : 2 ≤ n) (a b c d e m : Int) : place_At.f n a b c d e m = some (AtV (RootsV a b c d e) (CellsV a b c d e) b m) := by
  obtain ⟨n, rfl⟩ : ∃ q, n = q + 2 := ⟨n - 2, by omega⟩
  unfold place_At.f
  rw [roots_f (by omega), cells_f (by omega), count_f (by omega)]
  simp only [bsome]
  have ho := okb a b c d e
  generalize RootsV a b c d e = R at *
  generalize CellsV a b c d e = C at *
  unfold AtV
  by_cases h0 : m < 0
  · rw [if_pos h0, if_pos (.inl h0)]
    simp only [place_At.j0, if_true]
  · rw [if_neg h0]
    by_cases h1 : CountV R C b ≤ m
    · rw [if_pos (.inr h1), show decide (m ≥ CountV R C b) = true from decide_eq_true h1]
      simp only [place_At.j0, if_true]
    · rw [if_neg (by omega), show decide (m ≥ CountV R C b) = false from decide_eq_false (by omega)]
      rcases ho with ⟨_, hz⟩ | ⟨_, _, ho⟩
      · exfalso
        have e : CountV R C b = 0 := if_pos hz
        omega
      · obtain ⟨k1, k2, k3⟩ := count_b ho
        obtain ⟨r1, r2, c1, c2, b1, b2⟩ := ho
        rw [k1] at h1
        have hC : ¬ C = 0 := by omega
        generalize b * C = z at *
        simp only [place_At.j0, place_Root.f, place_Of.f, bsome, Bool.false_eq_true, if_false]
        by_cases h2 : m < 3
        · rw [if_pos h2, if_pos h2, show wrap64 (1 + m) = 1 + m by unfold wrap64; omega]
        · rw [if_neg h2, if_neg h2, show wrap64 (3 + R) = 3 + R by unfold wrap64; omega]
          by_cases h3 : m < 3 + R
          · rw [if_pos h3, if_pos h3, show wrap64 (m - 3) = m - 3 by unfold wrap64; omega]
          · rw [if_neg h3, if_neg h3, if_neg hC, show wrap64 (m - (3 + R)) = m - (3 + R) by unfold wrap64; omega, Int.tdiv_eq_ediv_of_nonneg (by omega), Int.tmod_eq_emod_of_nonneg (by omega)]
            have q1 := Int.ediv_nonneg (show 0 ≤ m - (3 + R) by omega) (show 0 ≤ C by omega)
            have q2 : (m - (3 + R)) / C ≤ m - (3 + R) := Int.ediv_le_self _ (by omega)
            generalize (m - (3 + R)) / C = y at *
            rw [show wrap64 y = y by unfold wrap64; omega, show wrap64 (1 + y) = 1 + y by unfold wrap64; omega]
/-- A number's place has that number. -/
theorem at_num {R C b : Int} (h : OkB R C b) {n : Int} (h0 : 0 ≤ n) (h1 : n < CountV R C b) : (AtV R C b n).2.2.2 = true ∧ NumV R C b (AtV R C b n).1 (AtV R C b n).2.1 (AtV R C b n).2.2.1 = (n, true) := by
  obtain ⟨k1, k2, k3⟩ := count_b h
  obtain ⟨r1, r2, c1, c2, b1, b2⟩ := h
  have hR : ¬ R = 0 := by omega
  unfold AtV
  rw [if_neg (by omega)]
  rw [k1] at h1
  unfold NumV
  by_cases h2 : n < 3
  · rw [if_pos h2]
    refine ⟨rfl, ?_⟩
    simp only []
    rw [if_neg hR, if_pos (by refine ⟨?_, ?_, ?_, ?_⟩ <;> first | trivial | omega)]
    simp; omega
  · rw [if_neg h2]
    by_cases h3 : n < 3 + R
    · rw [if_pos h3]
      refine ⟨rfl, ?_⟩
      simp only []
      rw [if_neg hR, if_neg (by first | omega | (simp; done)), if_pos (by refine ⟨?_, ?_, ?_, ?_⟩ <;> first | trivial | omega)]
      simp; omega
    · rw [if_neg h3]
      refine ⟨rfl, ?_⟩
      simp only []
      have q1 := Int.ediv_nonneg (show 0 ≤ n - (3 + R) by omega) (show 0 ≤ C by omega)
      have q2 : (n - (3 + R)) / C < b := Int.ediv_lt_of_lt_mul (by omega) (by omega)
      have q3 := Int.emod_nonneg (n - (3 + R)) (show C ≠ 0 by omega)
      have q4 := Int.emod_lt_of_pos (n - (3 + R)) (show 0 < C by omega)
      have q5 := Int.emod_add_mul_ediv (n - (3 + R)) C
      rw [Int.mul_comm] at q5
      generalize (n - (3 + R)) / C = y at *
      generalize (n - (3 + R)) % C = x at *
      rw [if_neg hR, if_neg (by first | omega | (simp; done)), if_neg (by first | omega | (simp; done)), if_pos (by refine ⟨?_, ?_, ?_, ?_, ?_⟩ <;> first | trivial | omega)]
      rw [show (1 + y - 1) * C = y * C by rw [show 1 + y - 1 = y by omega]]
      simp; omega
/-- A place's number is its own. -/
theorem num_at {R C b : Int} (h : OkB R C b) {k s p : Int} (ht : (NumV R C b k s p).2 = true) : 0 ≤ (NumV R C b k s p).1 ∧ (NumV R C b k s p).1 < CountV R C b ∧ AtV R C b (NumV R C b k s p).1 = (k, s, p, true) := by
  have hh := h
  obtain ⟨k1, k2, k3⟩ := count_b h
  obtain ⟨r1, r2, c1, c2, b1, b2⟩ := h
  have hR : ¬ R = 0 := by omega
  revert ht
  unfold NumV AtV
  rw [if_neg hR]
  by_cases h1 : 1 ≤ k ∧ k ≤ 3 ∧ s = 0 ∧ p = 0
  · rw [if_pos h1]
    intro _
    obtain ⟨h1, h2, rfl, rfl⟩ := h1
    refine ⟨by show 0 ≤ k - 1; omega, by show k - 1 < _; omega, ?_⟩
    simp only []
    rw [if_neg (by omega), if_pos (by omega)]
    simp; omega
  · rw [if_neg h1]
    by_cases h2 : k = 4 ∧ s = 0 ∧ 0 ≤ p ∧ p < R
    · rw [if_pos h2]
      intro _
      obtain ⟨rfl, rfl, h3, h4⟩ := h2
      refine ⟨by show 0 ≤ 3 + p; omega, by show 3 + p < _; omega, ?_⟩
      simp only []
      rw [if_neg (by omega), if_neg (by omega), if_pos (by omega)]
      simp; omega
    · rw [if_neg h2]
      by_cases h3 : k = 5 ∧ 1 ≤ s ∧ s ≤ b ∧ 0 ≤ p ∧ p < C
      · rw [if_pos h3]
        intro _
        obtain ⟨rfl, h4, h5, h6, h7⟩ := h3
        obtain ⟨m1, m2, m3⟩ := mulb hh h4 h5
        have e1 : ((s - 1) * C + p) / C = s - 1 := by
          rw [Int.add_comm, Int.add_mul_ediv_right _ _ (by omega), Int.ediv_eq_zero_of_lt h6 h7]; omega
        have e2 : ((s - 1) * C + p) % C = p := by
          rw [Int.add_comm, Int.add_mul_emod_self_right, Int.emod_eq_of_lt h6 h7]
        refine ⟨by show 0 ≤ 3 + R + (s - 1) * C + p; omega, by show 3 + R + (s - 1) * C + p < _; omega, ?_⟩
        simp only []
        rw [if_neg (by omega), if_neg (by omega), if_neg (by omega), show 3 + R + (s - 1) * C + p - (3 + R) = (s - 1) * C + p by omega, e1, e2]
        simp; omega
      · rw [if_neg h3]
        intro h
        cases h
theorem ris_f {n : Nat} (hn : 4 ≤ n) (a b c d e k s p : Int) : revenantref05_Is.f n a b c d e k s p = some (NumV (RootsV a b c d e) (CellsV a b c d e) b k s p).2 := by
  unfold revenantref05_Is.f
  rw [rcheck_f (by omega), rroots_f (by omega)]
  simp only [bsome]
  have ho := okb a b c d e
  generalize RootsV a b c d e = R at *
  generalize CellsV a b c d e = C at *
  unfold NumV
  rcases ho with ⟨h0, hz⟩ | ⟨h0, hC, ho⟩
  · rw [if_neg h0, if_pos hz]
  · have hR : ¬ R = 0 := by have := ho.r1; omega
    rw [if_pos h0, if_neg hR]
    have w1 : wrap64 (7 + d) = C := by have := ho.c1; have := ho.c2; unfold wrap64; omega
    rw [w1]
    generalize (s - 1) * C = z4 at *
    clear ho w1 hC
    grind
theorem rnum_f {n : Nat} (hn : 4 ≤ n) (a b c d e k s p : Int) (h : (NumV (RootsV a b c d e) (CellsV a b c d e) b k s p).2 = true) : revenantref05_Number.f n a b c d e k s p = some (NumV (RootsV a b c d e) (CellsV a b c d e) b k s p).1 := by
  unfold revenantref05_Number.f
  rw [rroots_f (by omega)]
  simp only [bsome]
  have ho := okb a b c d e
  generalize RootsV a b c d e = R at *
  generalize CellsV a b c d e = C at *
  unfold NumV at h ⊢
  rcases ho with ⟨h0, hz⟩ | ⟨h0, hC, ho⟩
  · rw [if_pos hz] at h; cases h
  · have hR : ¬ R = 0 := by have := ho.r1; omega
    rw [if_neg hR] at h ⊢
    by_cases h1 : 1 ≤ k ∧ k ≤ 3 ∧ s = 0 ∧ p = 0
    · rw [if_pos h1, if_pos (by omega), show wrap64 (k - 1) = k - 1 by unfold wrap64; omega]
    · rw [if_neg h1] at h ⊢
      by_cases h2 : k = 4 ∧ s = 0 ∧ 0 ≤ p ∧ p < R
      · rw [if_pos h2, if_neg (by omega), if_pos h2.1, show wrap64 (3 + p) = 3 + p by have := ho.r2; unfold wrap64; omega]
      · rw [if_neg h2] at h ⊢
        by_cases h3 : k = 5 ∧ 1 ≤ s ∧ s ≤ b ∧ 0 ≤ p ∧ p < C
        · rw [if_pos h3, if_neg (by omega), if_neg (by omega)]
          obtain ⟨m1, m2, m3⟩ := mulb ho h3.2.1 h3.2.2.1
          obtain ⟨r1, r2, c1, c2, b1, b2⟩ := ho
          rw [show wrap64 (s - 1) = s - 1 by unfold wrap64; omega, show wrap64 (7 + d) = C by unfold wrap64; omega]
          generalize (s - 1) * C = z at *
          rw [show wrap64 z = z by unfold wrap64; omega, show wrap64 (3 + R) = 3 + R by unfold wrap64; omega, show wrap64 (3 + R + z) = 3 + R + z by unfold wrap64; omega, show wrap64 (3 + R + z + p) = 3 + R + z + p by unfold wrap64; omega]
        · rw [if_neg h3] at h; cases h
theorem is_f {n : Nat} (hn : 4 ≤ n) (a b c d e k s p : Int) : place_Is.f n a b c d e k s p = some (NumV (RootsV a b c d e) (CellsV a b c d e) b k s p).2 := by
  unfold place_Is.f
  rw [number_f hn]
  rfl
end Go.Proofs.YtcncndhoeiaoeaaDoor.PPlaceExact

