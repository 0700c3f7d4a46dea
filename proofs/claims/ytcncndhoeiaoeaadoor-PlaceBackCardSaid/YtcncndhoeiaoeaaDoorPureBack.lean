/-
The plain law PlaceBack.
-/
import Derived.Test.YtcncndhoeiaoeaaDoorPlaceP
import Derived.Test.YtcncndhoeiaoeaaDoorLBack
namespace Go.Proofs.YtcncndhoeiaoeaaDoor.PPlaceExact
open Go Go.RowKit Go.Proofs.YtcncndhoeiaoeaaDoorW.PrintWords Go.Proofs.YtcncndhoeiaoeaaDoorW.PrintLast Go.Proofs.YtcncndhoeiaoeaaDoorW.PrintMore Go.Proofs.YtcncndhoeiaoeaaDoor.U
set_option linter.unusedVariables false
set_option linter.unusedSimpArgs false
theorem at_no {R C b n : Int} (h : CountV R C b ≤ n) : AtV R C b n = (0, 0, 0, false) := if_pos (.inr h)
theorem at_lo {R C b n : Int} (h0 : 0 ≤ n) (h1 : n < 3) (h2 : n < CountV R C b) : AtV R C b n = (1 + n, 0, 0, true) := by
  unfold AtV
  rw [if_neg (by omega), if_pos h1]
theorem at_root {R C b n : Int} (h0 : 3 ≤ n) (h1 : n < 3 + R) (h2 : n < CountV R C b) : AtV R C b n = (4, 0, n - 3, true) := by
  unfold AtV
  rw [if_neg (by omega), if_neg (by omega), if_pos h1]
theorem at_cell {R C b y x : Int} (ho : OkB R C b) (h0 : 0 ≤ y) (h1 : y < b) (h2 : 0 ≤ x) (h3 : x < C) : AtV R C b (3 + R + y * C + x) = (5, 1 + y, x, true) ∧ 3 + R + y * C + x < CountV R C b := by
  obtain ⟨m1, m2, m3⟩ := mulb ho (s := 1 + y) (by omega) (by omega)
  rw [show (1 + y - 1) * C = y * C by rw [show 1 + y - 1 = y by omega]] at m1 m2
  obtain ⟨k1, k2, k3⟩ := count_b ho
  obtain ⟨r1, r2, c1, c2, b1, b2⟩ := ho
  have e1 : (y * C + x) / C = y := by
    rw [Int.add_comm, Int.add_mul_ediv_right _ _ (by omega), Int.ediv_eq_zero_of_lt h2 h3]; omega
  have e2 : (y * C + x) % C = x := by
    rw [Int.add_comm, Int.add_mul_emod_self_right, Int.emod_eq_of_lt h2 h3]
  refine ⟨?_, by omega⟩
  unfold AtV
  rw [if_neg (by omega), if_neg (by omega), if_neg (by omega), show 3 + R + y * C + x - (3 + R) = y * C + x by omega, e1, e2]
theorem after_f {n : Nat} (hn : 5 ≤ n) (a b c d e i : Int) (ho : OkB (RootsV a b c d e) (CellsV a b c d e) b) (hC : CellsV a b c d e = 7 + d) (h0 : 0 ≤ i) (h1 : i < CountV (RootsV a b c d e) (CellsV a b c d e) b) :
    ∃ x y z m, revenantref05_After.f n a b c d e (AtV (RootsV a b c d e) (CellsV a b c d e) b i).1 (AtV (RootsV a b c d e) (CellsV a b c d e) b i).2.1 (AtV (RootsV a b c d e) (CellsV a b c d e) b i).2.2.1 = some (x, y, z, m) ∧ AtV (RootsV a b c d e) (CellsV a b c d e) b (i + 1) = if m = true then (x, y, z, true) else (0, 0, 0, false) := by
  obtain ⟨n, rfl⟩ : ∃ q, n = q + 5 := ⟨n - 5, by omega⟩
  unfold revenantref05_After.f
  rw [rroots_f (by omega)]
  simp only [bsome, revenantref05_After.j0]
  have hoo := ho
  generalize RootsV a b c d e = R at *
  generalize CellsV a b c d e = C at *
  obtain ⟨k1, k2, k3⟩ := count_b ho
  obtain ⟨r1, r2, c1, c2, b1, b2⟩ := ho
  by_cases h2 : i < 3
  · rw [at_lo h0 h2 h1]
    simp only []
    by_cases h3 : i < 2
    · rw [if_pos (by omega), show wrap64 (1 + i + 1) = 1 + (i + 1) by unfold wrap64; omega]
      exact ⟨_, _, _, _, rfl, by rw [at_lo (by omega) (by omega) (by omega), if_pos rfl]⟩
    · rw [if_neg (by omega), if_pos (by omega)]
      obtain rfl : i = 2 := by omega
      exact ⟨_, _, _, _, rfl, by rw [at_root (by omega) (by omega) (by omega), if_pos rfl]; rfl⟩
  · by_cases h3 : i < 3 + R
    · rw [at_root (by omega) h3 h1]
      simp only [show ¬ ((4 : Int) < 3) by omega, show ¬ ((4 : Int) = 3) by omega, if_false, if_true]
      rw [show wrap64 (R - 1) = R - 1 by unfold wrap64; omega]
      by_cases h4 : i - 3 < R - 1
      · rw [if_pos (decide_eq_true h4), show wrap64 (i - 3 + 1) = i + 1 - 3 by unfold wrap64; omega]
        exact ⟨_, _, _, _, rfl, by rw [at_root (by omega) (by omega) (by omega), if_pos rfl]⟩
      · rw [if_neg (by rw [decide_eq_true_eq]; exact h4)]
        obtain ⟨q1, q2⟩ := at_cell hoo (y := 0) (x := 0) (by omega) (by omega) (by omega) (by omega)
        refine ⟨_, _, _, _, rfl, ?_⟩
        rw [show i + 1 = 3 + R + 0 * C + 0 by omega, q1, if_pos rfl]
        rfl
    · have q1 := Int.ediv_nonneg (show 0 ≤ i - (3 + R) by omega) (show 0 ≤ C by omega)
      have q2 : (i - (3 + R)) / C < b := Int.ediv_lt_of_lt_mul (by omega) (by omega)
      have q3 := Int.emod_nonneg (i - (3 + R)) (show C ≠ 0 by omega)
      have q4 := Int.emod_lt_of_pos (i - (3 + R)) (show 0 < C by omega)
      have q5 := Int.emod_add_mul_ediv (i - (3 + R)) C
      rw [Int.mul_comm] at q5
      generalize (i - (3 + R)) / C = y at *
      generalize (i - (3 + R)) % C = x at *
      obtain ⟨z, hz⟩ : ∃ z, y * C = z := ⟨_, rfl⟩
      obtain rfl : i = 3 + R + y * C + x := by omega
      rw [(at_cell hoo q1 q2 q3 q4).1]
      simp only [show ¬ ((5 : Int) < 3) by omega, show ¬ ((5 : Int) = 3) by omega, show ¬ ((5 : Int) = 4) by omega, if_false, Bool.false_eq_true]
      rw [show wrap64 (6 + d) = C - 1 by unfold wrap64; omega]
      by_cases h5 : x < C - 1
      · rw [if_pos h5, show wrap64 (x + 1) = x + 1 by unfold wrap64; omega]
        refine ⟨_, _, _, _, rfl, ?_⟩
        rw [show 3 + R + y * C + x + 1 = 3 + R + y * C + (x + 1) by omega, (at_cell hoo q1 q2 (x := x + 1) (by omega) (by omega)).1, if_pos rfl]
      · rw [if_neg h5, show wrap64 (1 + y + 1) = 1 + (y + 1) by unfold wrap64; omega]
        refine ⟨_, _, _, _, rfl, ?_⟩
        have e : (y + 1) * C = y * C + C := by rw [Int.add_mul, Int.one_mul]
        by_cases h6 : y + 1 < b
        · rw [show 3 + R + y * C + x + 1 = 3 + R + (y + 1) * C + 0 by omega, (at_cell hoo (y := y + 1) (by omega) h6 (x := 0) (by omega) (by omega)).1, if_pos (by rw [decide_eq_true_eq]; omega)]
        · obtain rfl : b = y + 1 := by omega
          rw [at_no (by omega), if_neg (by rw [decide_eq_true_eq]; omega)]
theorem back05_0 {n : Nat} (hn : 12 ≤ n) (a b c d e m : Int) (f : Bool) (hf : RootsV a b c d e = 0 → f = false) : revenantlaw05_PlaceBack.j0 n m f a b c d e = some true := by
  obtain ⟨n, rfl⟩ : ∃ q, n = q + 12 := ⟨n - 12, by omega⟩
  simp only [revenantlaw05_PlaceBack.j0]
  rw [count_f (by omega), bsome]
  rcases okb a b c d e with ⟨h0, hz⟩ | ⟨h0, hC, ho⟩
  · have e : CountV (RootsV a b c d e) (CellsV a b c d e) b = 0 := if_pos hz
    rw [if_pos e, hf hz]
    rfl
  · obtain ⟨k1, k2, k3⟩ := count_b ho
    have hoo := ho
    have hC' := hC
    obtain ⟨r1, r2, c1, c2, b1, b2⟩ := ho
    obtain ⟨Z, hZ⟩ : ∃ Z, CountV (RootsV a b c d e) (CellsV a b c d e) b = Z := ⟨_, rfl⟩
    have z1 : 0 < Z ∧ Z ≤ 192938100 := by rw [← hZ, k1]; omega
    rw [hZ, if_neg (by omega), bsome, show IntKind.u64.wrap Z = Z by rw [wrapU_mod]; omega]
    rw [if_neg (by omega)]
    obtain ⟨u, hu⟩ : ∃ u, IntKind.u64.wrap m = u := ⟨_, rfl⟩
    have hu0 : 0 ≤ u := by rw [← hu]; rw [wrapU_mod]; omega
    rw [hu, Int.tmod_eq_emod_of_nonneg hu0]
    have i0 := Int.emod_nonneg u (show Z ≠ 0 by omega)
    have i1 := Int.emod_lt_of_pos u (show 0 < Z by omega)
    generalize u % Z = i at *
    rw [show wrap64 i = i by unfold wrap64; omega, at_f (by omega), bsome, number_f (by omega), bsome]
    obtain ⟨t1, t2⟩ := at_num hoo i0 (hZ ▸ i1)
    rw [t1, t2, if_pos rfl, if_pos rfl]
    simp only [revenantlaw05_PlaceBack.j1, bne_self_eq_false, Bool.false_eq_true, if_false]
    obtain ⟨x, y, z, g, e1, e2⟩ := after_f (n := n + 10) (by omega) a b c d e i hoo hC' i0 (hZ ▸ i1)
    rw [e1, bsome, show wrap64 (i + 1) = i + 1 by unfold wrap64; omega, at_f (by omega), bsome, e2]
    cases g <;> simp
theorem RPlaceBack {A1 A2 A3 : Prop} (a b c d e m k s p : Int) (_ : A1) (_ : A2) (_ : A3) (haw : ∀ n, 20 ≤ n → revenantlaw05_awake.f n = some true) : ∃ n, revenantlaw05_PlaceBack.f n a b c d e m k s p = some true := by
  refine ⟨20, ?_⟩
  unfold revenantlaw05_PlaceBack.f
  rw [haw 20 (by omega), bsome, if_pos rfl, number_f (by omega), bsome]
  have hf : RootsV a b c d e = 0 → (NumV (RootsV a b c d e) (CellsV a b c d e) b k s p).2 = false := fun h => by unfold NumV; rw [if_pos h]
  by_cases h : (NumV (RootsV a b c d e) (CellsV a b c d e) b k s p).2 = true
  · rw [if_pos h, at_f (by omega), bsome]
    rcases okb a b c d e with ⟨h0, hz⟩ | ⟨h0, hC, ho⟩
    · rw [hf hz] at h; cases h
    · rw [(num_at ho h).2.2, if_pos rfl]
      simp only [beq_self_eq_true, Bool.not_true, Bool.or_false, Bool.false_eq_true, if_false]
      exact back05_0 (by omega) a b c d e m _ hf
  · rw [if_neg h]
    exact back05_0 (by omega) a b c d e m _ hf
end Go.Proofs.YtcncndhoeiaoeaaDoor.PPlaceExact

namespace Go.Proofs.YtcncndhoeiaoeaaDoor.PPlaceExact
open Go Go.RowKit Go.Proofs.YtcncndhoeiaoeaaDoorW.PrintWords Go.Proofs.YtcncndhoeiaoeaaDoorW.PrintLast Go.Proofs.YtcncndhoeiaoeaaDoorW.PrintMore Go.Proofs.YtcncndhoeiaoeaaDoor.U
theorem PlaceBackT {A1 A2 A3 : Prop} (a b c d e m k s p : Int) (g1 : A1) (g2 : A2) (g3 : A3) : ∃ n, revenantlaw05_PlaceBack.f n a b c d e m k s p = some true :=
  RPlaceBack a b c d e m k s p g1 g2 g3 (fun _ hn => at_rounds (revenantlaw05_awake.mono) hn revenantlaw05_awake.one)
end Go.Proofs.YtcncndhoeiaoeaaDoor.PPlaceExact

