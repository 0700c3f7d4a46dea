/-
strconv.Itoa of small numbers, in the words of the printed texts.
-/
import Derived.Test.YtcncndhoeiaoeaaDoorItoa
import Derived.Test.YtcncndhoeiaoeaaDoorPPlaceExactx0
namespace Go.Proofs.YtcncndhoeiaoeaaDoor.PPlaceExact
open Go Go.RowKit Go.Proofs.YtcncndhoeiaoeaaDoorW.PrintWords Go.Proofs.YtcncndhoeiaoeaaDoorW.PrintLast Go.Proofs.YtcncndhoeiaoeaaDoorW.PrintMore
/-- strconv.Itoa of small numbers. -/
def itoaS.f (a0 : Int) : Option ByteArray := if 0 ≤ a0 then (if a0 < 10 then some ⟨#[UInt8.ofNat (48 + a0.toNat)]⟩ else if a0 < 100 then some ⟨#[UInt8.ofNat (48 + a0.toNat / 10), UInt8.ofNat (48 + a0.toNat % 10)]⟩ else none) else none
theorem itoaS_eq {a0 : Int} {r : ByteArray} (h : itoaS.f a0 = some r) : ∃ i : Nat, a0 = i ∧ i < 100 ∧ r = ⟨(Lib.decDigits i).toArray⟩ := by
  unfold itoaS.f at h
  by_cases h0 : 0 ≤ a0
  · rw [if_pos h0] at h
    obtain ⟨i, rfl⟩ := Int.eq_ofNat_of_zero_le h0
    by_cases h1 : (i : Int) < 10
    · rw [if_pos h1] at h
      obtain rfl := Option.some.inj h
      exact ⟨i, rfl, by omega, by rw [Lib.decDigits_one (by omega)]; rfl⟩
    · rw [if_neg h1] at h
      by_cases h2 : (i : Int) < 100
      · rw [if_pos h2] at h
        obtain rfl := Option.some.inj h
        exact ⟨i, rfl, by omega, by rw [Lib.decDigits_two (by omega) (by omega)]; rfl⟩
      · rw [if_neg h2] at h
        cases h
  · rw [if_neg h0] at h
    cases h
theorem itoaS.calls (a0 : Int) (r : ByteArray) (w : World) (h : itoaS.f a0 = some r) :
    Calls Tryd.prog 40 #[.int .i64 a0] w fun e w' => e = .returned (.string r) ∧ Below w.heap.size w w' := by
  obtain ⟨i, rfl, hi, rfl⟩ := itoaS_eq h
  refine (Tryd.strconv_Itoa_small i hi w).mono ?_
  rintro e w' ⟨rfl, rfl⟩
  exact ⟨rfl, Below.refl _ _⟩
end Go.Proofs.YtcncndhoeiaoeaaDoor.PPlaceExact

