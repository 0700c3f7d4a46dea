/-
The document's words of numbers are the decimal numerals.
-/
import Derived.Lib.ItoaNum
import Derived.Test.YtcncndhoeiaoeaaDoorTalN
namespace Go.Proofs.YtcncndhoeiaoeaaDoor.PTallyExact
open Go Go.RowKit Go.Proofs.YtcncndhoeiaoeaaDoorW.PrintWords Go.Proofs.YtcncndhoeiaoeaaDoorW.PrintLast Go.Proofs.YtcncndhoeiaoeaaDoorW.PrintMore
set_option linter.unusedVariables false
set_option linter.unusedSimpArgs false
theorem wrap_u {x : Int} (h0 : 0 ≤ x) (h1 : x < 18446744073709551616) : IntKind.u64.wrap x = x := by
  unfold IntKind.wrap IntKind.bits
  simp [IntKind.signed]
  omega
theorem digit_str (d : Nat) (hd : d < 10) : strOfNums [(IntKind.u64.wrap (48 + (d : Int))) % 256] = ⟨#[UInt8.ofNat (48 + d)]⟩ := by
  rw [wrap_u (by omega) (by omega), show (48 + (d : Int)) % 256 = ((48 + d : Nat) : Int) by omega]
  rfl
theorem bsome' {α β : Type} (x : α) (f : α → Option β) : (some x).bind f = f x := rfl
theorem l0_digits (k : Nat) : ∀ (n : Nat) (s : ByteArray), n < 10 ^ (k + 1) → (n : Int) < 18446744073709551616 → s.size + k ≤ 1000 →
    revenantref32_Num.l0 (k + 1) (n : Int) s = some (if n < 10 then s else ⟨(Lib.decDigits (n / 10)).toArray⟩ ++ s) := by
  induction k with
  | zero =>
    intro n s hn _ _
    have hn' : n < 10 := by simpa using hn
    unfold revenantref32_Num.l0
    rw [if_neg (by omega), if_pos hn']
  | succ k ih =>
    intro n s hn hu hs
    unfold revenantref32_Num.l0
    by_cases h10 : n < 10
    · rw [if_neg (by omega), if_pos h10]
    · rw [if_pos (by omega), if_neg h10]
      have e1 : Int.tdiv (n : Int) 10 = ((n / 10 : Nat) : Int) := by
        rw [Int.tdiv_eq_ediv_of_nonneg (by omega)]; omega
      have e2 : Int.tmod ((n / 10 : Nat) : Int) 10 = ((n / 10 % 10 : Nat) : Int) := by
        rw [Int.tmod_eq_emod_of_nonneg (by omega)]; omega
      have hw : IntKind.u64.wrap ((n / 10 : Nat) : Int) = ((n / 10 : Nat) : Int) := wrap_u (by omega) (by omega)
      have hz : (⟨#[UInt8.ofNat (48 + n / 10 % 10)]⟩ : ByteArray).size = 1 := rfl
      rw [e1, hw, e2]
      refine (bsome' _ _).trans ?_
      rw [digit_str _ (by omega), if_pos (by rw [hz]; omega)]
      rw [ih (n / 10) _ (by rw [Nat.pow_succ] at hn; omega) (by omega) (by rw [ByteArray.size_append, hz]; omega)]
      by_cases h100 : n / 10 < 10
      · rw [if_pos h100, Lib.decDigits_one h100, Nat.mod_eq_of_lt h100]
      · rw [if_neg h100]
        congr 1
        rw [Lib.decDigits.eq_def (n / 10), dif_neg h100]
        apply ByteArray.ext
        simp
theorem num32 (n : Nat) (h : (n : Int) < 18446744073709551616) : revenantref32_Num.f 21 (n : Int) = some ⟨(Lib.decDigits n).toArray⟩ := by
  unfold revenantref32_Num.f
  have e2 : Int.tmod (n : Int) 10 = ((n % 10 : Nat) : Int) := by rw [Int.tmod_eq_emod_of_nonneg (by omega)]; omega
  rw [e2, digit_str _ (by omega), l0_digits 20 n _ (by
    have : (10 : Nat) ^ 21 = 1000000000000000000000 := by decide
    omega) h (by
    have : (⟨#[UInt8.ofNat (48 + n % 10)]⟩ : ByteArray).size = 1 := rfl
    omega)]
  by_cases h10 : n < 10
  · rw [if_pos h10, Lib.decDigits_one h10, Nat.mod_eq_of_lt h10]
  · rw [if_neg h10]
    congr 1
    rw [Lib.decDigits.eq_def n, dif_neg h10]
    apply ByteArray.ext
    simp
theorem decDigits_len (n : Nat) : ∀ k, n < 10 ^ (k + 1) → (Lib.decDigits n).length ≤ k + 1 := by
  intro k
  induction k generalizing n with
  | zero => intro h; rw [Lib.decDigits_one (by simpa using h)]; exact Nat.le_refl _
  | succ k ih =>
    intro h
    by_cases h10 : n < 10
    · rw [Lib.decDigits_one h10]; simp
    · rw [Lib.decDigits, dif_neg h10, List.length_append]
      have := ih (n / 10) (by rw [Nat.pow_succ] at h; omega)
      simp; omega
theorem num35 (n : Int) (h0 : -9223372036854775808 ≤ n) (h1 : n ≤ 9223372036854775807) : revenantref35_Num.f 21 n = some ⟨(Lib.itoa n).toArray⟩ := by
  unfold revenantref35_Num.f Lib.itoa
  by_cases hn : n < 0
  · rw [if_pos hn, if_pos hn]
    have e : IntKind.u64.wrap (-(IntKind.u64.wrap n)) = ((n.natAbs : Nat) : Int) := by
      unfold IntKind.wrap IntKind.bits
      simp [IntKind.signed]
      omega
    rw [e, num32 _ (by omega)]
    simp only [Option.bind_some]
    have hl := decDigits_len n.natAbs 20 (by
      have : (10 : Nat) ^ 21 = 1000000000000000000000 := by decide
      omega)
    rw [if_pos (by
      have : (⟨(Lib.decDigits n.natAbs).toArray⟩ : ByteArray).size = (Lib.decDigits n.natAbs).length := by simp [ByteArray.size]
      omega)]
    congr 1
  · rw [if_neg hn, if_neg hn]
    have e : IntKind.u64.wrap n = ((n.toNat : Nat) : Int) := by rw [wrap_u (by omega) (by omega)]; omega
    rw [e, num32 _ (by omega)]
    rfl
theorem itoa_size (n : Int) (h0 : -9223372036854775808 ≤ n) (h1 : n ≤ 9223372036854775807) : (Lib.itoa n).length ≤ 22 := by
  unfold Lib.itoa
  have hp : (10 : Nat) ^ 21 = 1000000000000000000000 := by decide
  by_cases hn : n < 0
  · rw [if_pos hn]
    have := decDigits_len n.natAbs 20 (by omega)
    simp; omega
  · rw [if_neg hn]
    have := decDigits_len n.toNat 20 (by omega)
    omega
end Go.Proofs.YtcncndhoeiaoeaaDoor.PTallyExact

