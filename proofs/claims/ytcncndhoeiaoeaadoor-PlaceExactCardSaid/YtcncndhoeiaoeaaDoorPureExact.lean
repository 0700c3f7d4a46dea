/-
The plain law PlaceExact.
-/
import Derived.Test.YtcncndhoeiaoeaaDoorPlaceP
import Derived.Test.YtcncndhoeiaoeaaDoorLExact
namespace Go.Proofs.YtcncndhoeiaoeaaDoor.PPlaceExact
open Go Go.RowKit Go.Proofs.YtcncndhoeiaoeaaDoorW.PrintWords Go.Proofs.YtcncndhoeiaoeaaDoorW.PrintLast Go.Proofs.YtcncndhoeiaoeaaDoorW.PrintMore Go.Proofs.YtcncndhoeiaoeaaDoor.U
set_option linter.unusedVariables false
set_option linter.unusedSimpArgs false
theorem exact05_3 {n : Nat} (hn : 9 ≤ n) (a b c d e m : Int) :
    (place_At.f n a b c d e m).bind (fun q => if m < 0 then (revenantlaw05_PlaceExact.j3 n m (CountV (RootsV a b c d e) (CellsV a b c d e) b) q.2.2.2 true a b c d e q.1 q.2.1 q.2.2.1) else (revenantlaw05_PlaceExact.j3 n m (CountV (RootsV a b c d e) (CellsV a b c d e) b) q.2.2.2 (decide (m ≥ CountV (RootsV a b c d e) (CellsV a b c d e) b)) a b c d e q.1 q.2.1 q.2.2.1)) = some true := by
  obtain ⟨n, rfl⟩ : ∃ q, n = q + 9 := ⟨n - 9, by omega⟩
  rw [at_f (by omega), bsome]
  have hA : m < 0 ∨ CountV (RootsV a b c d e) (CellsV a b c d e) b ≤ m → AtV (RootsV a b c d e) (CellsV a b c d e) b m = (0, 0, 0, false) := fun h => if_pos h
  by_cases h0 : m < 0
  · rw [if_pos h0, hA (.inl h0)]
    simp only [revenantlaw05_PlaceExact.j3, if_true]
    rw [count_f (by omega), bsome, if_pos rfl]
    rfl
  · rw [if_neg h0]
    by_cases h1 : CountV (RootsV a b c d e) (CellsV a b c d e) b ≤ m
    · rw [hA (.inr h1), show decide (m ≥ CountV (RootsV a b c d e) (CellsV a b c d e) b) = true from decide_eq_true h1]
      simp only [revenantlaw05_PlaceExact.j3, if_true]
      rw [count_f (by omega), bsome, if_pos rfl]
      rfl
    · rw [show decide (m ≥ CountV (RootsV a b c d e) (CellsV a b c d e) b) = false from decide_eq_false (by omega)]
      have ho : OkB (RootsV a b c d e) (CellsV a b c d e) b := by
        rcases okb a b c d e with ⟨_, hz⟩ | ⟨_, _, ho⟩
        · exfalso
          have e : CountV (RootsV a b c d e) (CellsV a b c d e) b = 0 := if_pos hz
          omega
        · exact ho
      obtain ⟨t1, t2⟩ := at_num ho (n := m) (by omega) (by omega)
      have hi := ris_f (n := n + 8) (by omega) a b c d e (AtV (RootsV a b c d e) (CellsV a b c d e) b m).1 (AtV (RootsV a b c d e) (CellsV a b c d e) b m).2.1 (AtV (RootsV a b c d e) (CellsV a b c d e) b m).2.2.1
      have hj := rnum_f (n := n + 8) (by omega) a b c d e (AtV (RootsV a b c d e) (CellsV a b c d e) b m).1 (AtV (RootsV a b c d e) (CellsV a b c d e) b m).2.1 (AtV (RootsV a b c d e) (CellsV a b c d e) b m).2.2.1 (by rw [t2])
      rw [t2] at hi hj
      simp only [revenantlaw05_PlaceExact.j3, Bool.false_eq_true, if_false]
      rw [count_f (by omega), bsome, if_pos rfl, t1, if_pos rfl, hi, bsome, if_pos rfl, hj, bsome]
      simp
theorem exact05_1 {n : Nat} (hn : 12 ≤ n) (a b c d e m : Int) : revenantlaw05_PlaceExact.j1 n m false a b c d e = some true := by
  obtain ⟨n, rfl⟩ : ∃ q, n = q + 12 := ⟨n - 12, by omega⟩
  simp only [revenantlaw05_PlaceExact.j1, Bool.false_eq_true, if_false]
  rw [rcheck_f (by omega), bsome]
  have key := exact05_3 (n := n + 10) (by omega) a b c d e m
  rcases okb a b c d e with ⟨h0, hz⟩ | ⟨h0, hC, ho⟩
  · rw [if_neg h0]
    have e : CountV (RootsV a b c d e) (CellsV a b c d e) b = 0 := if_pos hz
    rw [e] at key
    exact key
  · rw [if_pos h0, rroots_f (by omega), bsome]
    obtain ⟨k1, k2, k3⟩ := count_b ho
    have e : wrap64 (wrap64 (3 + RootsV a b c d e) + wrap64 (b * wrap64 (7 + d))) = CountV (RootsV a b c d e) (CellsV a b c d e) b := by
      obtain ⟨r1, r2, c1, c2, b1, b2⟩ := ho
      rw [k1, show wrap64 (7 + d) = CellsV a b c d e by unfold wrap64; omega]
      generalize b * CellsV a b c d e = z at *
      generalize RootsV a b c d e = R at *
      rw [show wrap64 z = z by unfold wrap64; omega, show wrap64 (3 + R) = 3 + R by unfold wrap64; omega]
      unfold wrap64; omega
    rw [e]
    exact key
theorem exact05_0 {n : Nat} (hn : 13 ≤ n) (a b c d e k s p m : Int) : revenantlaw05_PlaceExact.j0 n m false a b c d e k s p = some true := by
  obtain ⟨n, rfl⟩ : ∃ q, n = q + 13 := ⟨n - 13, by omega⟩
  have j1 := exact05_1 (n := n + 12) (by omega) a b c d e m
  simp only [revenantlaw05_PlaceExact.j0, Bool.false_eq_true, if_false]
  unfold place_IsContent.f
  by_cases h1 : k = 5
  · by_cases h2 : p ≥ 0
    · by_cases h3 : p = 1
      · simp only [if_pos h1, if_pos h2, if_pos h3, bsome, bne_self_eq_false]; exact j1
      · simp only [if_pos h1, if_pos h2, if_neg h3, bsome, bne_self_eq_false]; exact j1
    · simp only [if_pos h1, if_neg h2, bsome, bne_self_eq_false]; exact j1
  · simp only [if_neg h1, bsome, bne_self_eq_false]; exact j1
theorem RPlaceExact {A1 A2 A3 : Prop} (a b c d e k s p m : Int) (_ : A1) (_ : A2) (_ : A3) (haw : ∀ n, 20 ≤ n → revenantlaw05_awake.f n = some true) : ∃ n, revenantlaw05_PlaceExact.f n a b c d e k s p m = some true := by
  refine ⟨20, ?_⟩
  unfold revenantlaw05_PlaceExact.f
  have j0 := exact05_0 (n := 20) (by omega) a b c d e k s p m
  rw [haw 20 (by omega), bsome, if_pos rfl, ris_f (by omega), bsome, number_f (by omega), bsome, is_f (by omega), bsome]
  simp only [bne_self_eq_false, Bool.false_eq_true, if_false]
  by_cases h : (NumV (RootsV a b c d e) (CellsV a b c d e) b k s p).2 = true
  · rw [if_pos h, rnum_f (by omega) a b c d e k s p h, bsome, bne_self_eq_false]
    exact j0
  · rw [if_neg h, if_pos (num_no h)]
    exact j0
end Go.Proofs.YtcncndhoeiaoeaaDoor.PPlaceExact

namespace Go.Proofs.YtcncndhoeiaoeaaDoor.PPlaceExact
open Go Go.RowKit Go.Proofs.YtcncndhoeiaoeaaDoorW.PrintWords Go.Proofs.YtcncndhoeiaoeaaDoorW.PrintLast Go.Proofs.YtcncndhoeiaoeaaDoorW.PrintMore Go.Proofs.YtcncndhoeiaoeaaDoor.U
theorem awake_f : ∀ n, 20 ≤ n → revenantlaw05_awake.f n = some true := fun _ hn => at_rounds (revenantlaw05_awake.mono) hn revenantlaw05_awake.one
theorem PlaceExactT {A1 A2 A3 : Prop} (a b c d e k s p m : Int) (g1 : A1) (g2 : A2) (g3 : A3) : ∃ n, revenantlaw05_PlaceExact.f n a b c d e k s p m = some true := RPlaceExact a b c d e k s p m g1 g2 g3 awake_f
end Go.Proofs.YtcncndhoeiaoeaaDoor.PPlaceExact

