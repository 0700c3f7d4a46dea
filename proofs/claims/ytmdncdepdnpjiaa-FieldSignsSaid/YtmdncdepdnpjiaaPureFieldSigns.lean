/-
Of every field, word and number: a number with a sign is its field's, and a word turned all the way round is as it was. No condition beyond the row's own.
-/
import Derived.Test.YtmdncdepdnpjiaaTFieldSigns
import Derived.Test.YtmdncdepdnpjiaaWords
namespace Go.Proofs.Ytmdncdepdnpjiaa.PFieldSigns
open Go Go.RowKit Go.Proofs.YtmdncdepdnpjiaaW.PrintWords Go.Proofs.YtmdncdepdnpjiaaW.PrintLast Go.Proofs.YtmdncdepdnpjiaaW.PrintMore Go.Proofs.Ytmdncdepdnpjiaa.U
set_option linter.unusedVariables false

/-- A field that can be. -/
def IsF (a n : Int) : Prop := 0 ≤ a ∧ 1 ≤ n ∧ n ≤ 64 ∧ a ≤ 64 - n
instance (a n : Int) : Decidable (IsF a n) := by unfold IsF; exact inferInstance
theorem is_f (a n : Int) : field_Field_Is.f a n = some (decide (IsF a n)) := by
  unfold field_Field_Is.f IsF
  by_cases h1 : 0 ≤ a
  · by_cases h2 : 1 ≤ n
    · by_cases h3 : n ≤ 64
      · rw [if_pos h1, if_pos h2, if_pos h3, w64 (by omega) (by omega)]
        simp [h1, h2, h3]
      · rw [if_pos h1, if_pos h2, if_neg h3]
        simp [h3]
    · rw [if_pos h1, if_neg h2]
      simp [h2]
  · rw [if_neg h1]
    simp [h1]
theorem is_yes {a n : Int} (h : IsF a n) : field_Field_Is.f a n = some true := by rw [is_f, decide_eq_true h]
theorem is_no {a n : Int} (h : ¬ IsF a n) : field_Field_Is.f a n = some false := by rw [is_f, decide_eq_false h]
theorem wrapU_small {x : Int} (h0 : 0 ≤ x) (h1 : x < 18446744073709551616) : IntKind.u64.wrap x = x := by rw [wrapU_mod]; omega
theorem max_yes {a n : Int} (h : IsF a n) : field_Field_Max.f a n = some (I (mask n.toNat)) := by
  have h' := h
  obtain ⟨h1, h2, h3, h4⟩ := h
  unfold field_Field_Max.f
  rw [is_yes h']
  simp only [Option.bind_some, if_true]
  rw [w64 (by omega) (by omega), wrapU_small (by omega) (by omega), if_pos (by omega), shrU (by omega) (by omega)]
  congr 2
  unfold mask
  have e : B 18446744073709551615 = BitVec.allOnes 64 := by decide
  rw [e]
  congr 1
  omega
theorem max_no {a n : Int} (h : ¬ IsF a n) : field_Field_Max.f a n = some 0 := by
  unfold field_Field_Max.f
  rw [is_no h]
  rfl
theorem get_yes {a n w : Int} (h : IsF a n) (w0 : 0 ≤ w) (w1 : w < 18446744073709551616) : field_Field_Get.f a n w = some (I (getB a.toNat n.toNat (B w))) := by
  have h' := h
  obtain ⟨h1, h2, h3, h4⟩ := h
  unfold field_Field_Get.f
  rw [is_yes h', max_yes h']
  simp only [Option.bind_some, if_true]
  rw [wrapU_small (by omega) (by omega), if_pos h1, shrU w0 w1, bitsU_and, B_I, B_I]
  rfl
theorem get_no {a n w : Int} (h : ¬ IsF a n) : field_Field_Get.f a n w = some 0 := by
  unfold field_Field_Get.f
  rw [is_no h]
  rfl
theorem put_yes {a n w x : Int} (h : IsF a n) (hx : x ≤ I (mask n.toNat)) : field_Field_Put.f a n w x = some (I (putB a.toNat n.toNat (B w) (B x)), true) := by
  have h' := h
  obtain ⟨h1, h2, h3, h4⟩ := h
  unfold field_Field_Put.f
  rw [is_yes h', max_yes h']
  simp only [Option.bind_some, if_true]
  rw [if_neg (by omega), wrapU_small (by omega) (by omega), if_pos h1, shlU, shlU, bitsU_andNot, bitsU_or, B_I, B_I, B_I, B_I]
  rfl
theorem put_great {a n w x : Int} (h : IsF a n) (hx : ¬ x ≤ I (mask n.toNat)) : field_Field_Put.f a n w x = some (0, false) := by
  unfold field_Field_Put.f
  rw [is_yes h, max_yes h]
  simp only [Option.bind_some, if_true]
  rw [if_pos (by omega)]
theorem put_no {a n w x : Int} (h : ¬ IsF a n) : field_Field_Put.f a n w x = some (0, false) := by
  unfold field_Field_Put.f
  rw [is_no h]
  rfl
theorem turn_f {w n : Int} (w0 : 0 ≤ w) (w1 : w < 18446744073709551616) : field_Turn.f w n = some (I (turnB (n % 64).toNat (B w))) := by
  have e : Int.tmod (IntKind.u64.wrap n) 64 = n % 64 := by
    rw [wrapU_mod, Int.tmod_eq_emod_of_nonneg (by omega)]
    omega
  unfold field_Turn.f
  rw [e, if_pos (by omega), wrapU_small (by omega) (by omega), if_pos (by omega), shlU, shrU w0 w1, bitsU_or, B_I, B_I]
  congr 2
  unfold turnB
  congr 2
  omega
theorem int_f {w : Int} (w0 : 0 ≤ w) (w1 : w < 18446744073709551616) : field_Int.f w = some (if w < 9223372036854775808 then (w, true) else (0, false)) := by
  unfold field_Int.f
  by_cases h : w < 9223372036854775808
  · rw [w64 (by omega) (by omega), if_neg (by omega), if_pos h]
  · rw [if_pos (by unfold wrap64; omega), if_neg h]
theorem awake_f : revenantlaw01_awake.f = some true := by decide +kernel
end Go.Proofs.Ytmdncdepdnpjiaa.PFieldSigns
namespace Go.Proofs.Ytmdncdepdnpjiaa.U
/-- A field's number, with its sign. -/
def sgn (n : Nat) (g : Nat) : Int := if 2 ^ (n - 1) ≤ g then (g : Int) - 2 ^ n else g
theorem get_lt {a n : Nat} (hn : n ≤ 64) (w : BitVec 64) : (getB a n w).toNat < 2 ^ n := by
  have h := le_of_fits hn (fits_get (a := a) hn w)
  rw [mask_toNat hn] at h
  have := Nat.two_pow_pos n
  omega
theorem pow_split {n : Nat} (h1 : 1 ≤ n) (h2 : n ≤ 64) : 2 ^ n * 2 ^ (64 - n) = 18446744073709551616 ∧ 2 ^ (n - 1) * 2 ^ (64 - n) = 9223372036854775808 ∧ 2 ^ n = 2 * 2 ^ (n - 1) := by
  refine ⟨?_, ?_, ?_⟩
  · rw [← Nat.pow_add, show n + (64 - n) = 64 by omega]
  · rw [← Nat.pow_add, show n - 1 + (64 - n) = 63 by omega]
  · obtain ⟨m, rfl⟩ : ∃ m, n = m + 1 := ⟨n - 1, by omega⟩
    rw [Nat.add_sub_cancel, Nat.pow_succ, Nat.mul_comm]
end Go.Proofs.Ytmdncdepdnpjiaa.U
namespace Go.Proofs.Ytmdncdepdnpjiaa.PFieldSigns
open Go Go.RowKit Go.Proofs.YtmdncdepdnpjiaaW.PrintWords Go.Proofs.YtmdncdepdnpjiaaW.PrintLast Go.Proofs.YtmdncdepdnpjiaaW.PrintMore Go.Proofs.Ytmdncdepdnpjiaa.U
set_option linter.unusedVariables false
theorem signed_yes {a n w : Int} (h : IsF a n) (w0 : 0 ≤ w) (w1 : w < 18446744073709551616) : field_Field_Signed.f a n w = some (sgn n.toNat (getB a.toNat n.toNat (B w)).toNat) := by
  have h' := h
  obtain ⟨h1, h2, h3, h4⟩ := h
  have hG := get_lt (a := a.toNat) (n := n.toNat) (by omega) (B w)
  unfold field_Field_Signed.f
  rw [is_yes h', get_yes h' w0 w1]
  simp only [Option.bind_some, if_true]
  rw [w64 (x := 64 - n) (by omega) (by omega), wrapU_small (by omega) (by omega), if_pos (by omega), shlU, B_I]
  have eu : (64 - n).toNat = 64 - n.toNat := by omega
  obtain ⟨p1, p2, p3⟩ := pow_split (n := n.toNat) (by omega) (by omega)
  rw [eu]
  generalize n.toNat = m at *
  generalize getB a.toNat m (B w) = g at *
  have e1 : I (g <<< (64 - m)) = ((g.toNat * 2 ^ (64 - m) : Nat) : Int) := by
    unfold I
    rw [BitVec.toNat_shiftLeft, Nat.shiftLeft_eq, Nat.mod_eq_of_lt]
    calc g.toNat * 2 ^ (64 - m) < 2 ^ m * 2 ^ (64 - m) := (Nat.mul_lt_mul_right (Nat.two_pow_pos _)).2 hG
      _ = 2 ^ 64 := by rw [p1]
  rw [e1]
  unfold shr
  have em : min (64 - n).toNat IntKind.i64.bits = 64 - m := by
    rw [eu]
    show min (64 - m) 64 = 64 - m
    omega
  rw [em]
  congr 1
  have hP : (0 : Int) < 2 ^ (64 - m) := by
    have := Nat.two_pow_pos (64 - m)
    have e : ((2 : Int) ^ (64 - m)) = ((2 ^ (64 - m) : Nat) : Int) := by rw [Int.natCast_pow]; rfl
    rw [e]
    omega
  unfold sgn
  have hc : ((g.toNat * 2 ^ (64 - m) : Nat) : Int) = (g.toNat : Int) * 2 ^ (64 - m) := by rw [Int.natCast_mul, Int.natCast_pow]; rfl
  have q1 : ((2 : Int) ^ m) * 2 ^ (64 - m) = 18446744073709551616 := by
    have e : ((2 : Int) ^ m) * 2 ^ (64 - m) = ((2 ^ m * 2 ^ (64 - m) : Nat) : Int) := by rw [Int.natCast_mul, Int.natCast_pow, Int.natCast_pow]; rfl
    rw [e, p1]
    rfl
  by_cases hs : 2 ^ (m - 1) ≤ g.toNat
  · rw [if_pos hs]
    have hge : 9223372036854775808 ≤ g.toNat * 2 ^ (64 - m) := by rw [← p2]; exact Nat.mul_le_mul_right _ hs
    have hlt : g.toNat * 2 ^ (64 - m) < 18446744073709551616 := by rw [← p1]; exact (Nat.mul_lt_mul_right (Nat.two_pow_pos _)).2 hG
    have e2 : wrap64 ((g.toNat * 2 ^ (64 - m) : Nat) : Int) = ((g.toNat : Int) - 2 ^ m) * 2 ^ (64 - m) := by
      rw [Int.sub_mul, q1, ← hc]
      unfold wrap64
      omega
    rw [e2, Int.mul_ediv_cancel _ (by omega)]
  · rw [if_neg hs]
    have hlt : g.toNat * 2 ^ (64 - m) < 9223372036854775808 := by rw [← p2]; exact (Nat.mul_lt_mul_right (Nat.two_pow_pos _)).2 (by omega)
    rw [w64 (by omega) (by omega), hc, Int.mul_ediv_cancel _ (by omega)]
theorem signed_no {a n w : Int} (h : ¬ IsF a n) : field_Field_Signed.f a n w = some 0 := by
  unfold field_Field_Signed.f
  rw [is_no h]
  rfl
end Go.Proofs.Ytmdncdepdnpjiaa.PFieldSigns
namespace Go.Proofs.Ytmdncdepdnpjiaa.U
theorem turn_turn {j k : Nat} (hj : j < 64) (hk : k < 64) (w : BitVec 64) : turnB k (turnB j w) = turnB ((j + k) % 64) w := by
  apply eq_of_bits
  intro i hi
  rw [turn_bit hk _ _ hi, turn_bit hj _ _ (by omega), turn_bit (by omega) _ _ hi]
  congr 1
  omega
theorem turn_zero (w : BitVec 64) : turnB 0 w = w := by
  apply eq_of_bits
  intro i hi
  rw [turn_bit (by omega) _ _ hi]
  congr 1
  omega
theorem tmod_mod (x : Int) : Int.tmod x 64 % 64 = x % 64 := by
  by_cases h : x < 0
  · rw [tmod_neg h]; omega
  · rw [tmod_pos (by omega)]; omega
theorem tmod_small (x : Int) : -64 < Int.tmod x 64 ∧ Int.tmod x 64 < 64 := by
  by_cases h : x < 0
  · rw [tmod_neg h]; omega
  · rw [tmod_pos (by omega)]; omega
theorem sgn_and {n g : Nat} (h1 : 1 ≤ n) (h2 : n ≤ 64) (hg : g < 2 ^ n) : B (sgn n g) &&& mask n = BitVec.ofNat 64 g := by
  obtain ⟨p1, p2, p3⟩ := pow_split h1 h2
  apply BitVec.eq_of_toNat_eq
  rw [BitVec.toNat_and, mask_toNat h2, Nat.and_two_pow_sub_one_eq_mod, BitVec.toNat_ofNat, toNat_B]
  have hpos := Nat.two_pow_pos n
  have hle : 2 ^ n ≤ 2 ^ 64 := Nat.pow_le_pow_right (by decide) h2
  have e64 : (2 : Nat) ^ 64 = 18446744073709551616 := by decide
  rw [e64] at hle
  have ec : ((2 : Int) ^ n) = ((2 ^ n : Nat) : Int) := by rw [Int.natCast_pow]; rfl
  rw [e64, Nat.mod_eq_of_lt (a := g) (by omega)]
  unfold sgn
  by_cases hs : 2 ^ (n - 1) ≤ g
  · rw [if_pos hs, ec]
    generalize hQ : 2 ^ n = Q at *
    have e : ((g : Int) - (Q : Int)) % 18446744073709551616 = ((g + (18446744073709551616 - Q) : Nat) : Int) := by omega
    rw [e, Int.toNat_natCast]
    have hq : 18446744073709551616 - Q = Q * (2 ^ (64 - n) - 1) := by rw [Nat.mul_sub, Nat.mul_one, p1]
    rw [hq, Nat.add_mul_mod_self_left, Nat.mod_eq_of_lt hg]
  · rw [if_neg hs]
    have e : ((g : Nat) : Int) % 18446744073709551616 = (g : Int) := by omega
    rw [e, Int.toNat_natCast, Nat.mod_eq_of_lt hg]
end Go.Proofs.Ytmdncdepdnpjiaa.U
namespace Go.Proofs.Ytmdncdepdnpjiaa.Pure
open Go Go.RowKit Go.Proofs.Ytmdncdepdnpjiaa.PFieldSigns Go.Proofs.YtmdncdepdnpjiaaW.PrintWords Go.Proofs.YtmdncdepdnpjiaaW.PrintLast Go.Proofs.YtmdncdepdnpjiaaW.PrintMore Go.Proofs.Ytmdncdepdnpjiaa.U
theorem signs_tail {w n m : Int} (w0 : 0 ≤ w) (w1 : w < 18446744073709551616) (k : Nat) : revenantlaw01_FieldSigns.j0 (k + 1) w n m false = some true := by
  have r : ∀ v : BitVec 64, 0 ≤ I v ∧ I v < 18446744073709551616 := fun v => ⟨I_nonneg v, I_lt v⟩
  simp only [revenantlaw01_FieldSigns.j0, Bool.false_eq_true, if_false]
  have a1 := tmod_small n
  have b1 := tmod_small m
  have a2 := tmod_mod n
  have b2 := tmod_mod m
  generalize Int.tmod n 64 = a at *
  generalize Int.tmod m 64 = b at *
  rw [turn_f w0 w1]
  simp only [bsome]
  rw [turn_f (r _).1 (r _).2, turn_f w0 w1, B_I]
  simp only [bsome]
  rw [turn_turn (by omega) (by omega), w64 (x := a + b) (by omega) (by omega), turn_f (r _).1 (r _).2, turn_f w0 w1, B_I, w64 (x := -a) (by omega) (by omega), turn_turn (by omega) (by omega)]
  simp only [bsome]
  have e1 : ((a % 64).toNat + (b % 64).toNat) % 64 = ((a + b) % 64).toNat := by omega
  have e2 : ((a % 64).toNat + (-a % 64).toNat) % 64 = 0 := by omega
  have e3 : ((64 : Int) % 64).toNat = 0 := rfl
  rw [e1, e2, e3, turn_zero, I_B_of w0 w1, if_pos rfl, if_pos rfl]
  simp
theorem whole {w : Int} (w0 : 0 ≤ w) (w1 : w < 18446744073709551616) : field_Field_Signed.f 0 64 w = some (wrap64 w) := by
  rw [signed_yes (by unfold IsF; omega) w0 w1]
  congr 1
  have e : getB (0 : Int).toNat (64 : Int).toNat (B w) = B w := by
    apply eq_of_bits
    intro i hi
    show (getB 0 64 (B w)).getLsbD i = _
    rw [get_bit (by omega)]
    simp [hi]
  rw [e, toNat_B, Int.emod_eq_of_lt w0 w1]
  show sgn 64 w.toNat = _
  unfold sgn
  have e1 : (2 : Nat) ^ (64 - 1) = 9223372036854775808 := by decide
  have e2 : (2 : Int) ^ 64 = 18446744073709551616 := by decide
  rw [e1, e2]
  unfold wrap64
  split <;> omega
theorem FieldSigns (a n w c d : Int) (hw : (Lit.int .u64 w).wf = true) : revenantlaw01_FieldSigns.f 9 a n w c d = some true := by
  rw [wf_u64] at hw
  obtain ⟨w0, w1⟩ := hw
  unfold revenantlaw01_FieldSigns.f
  rw [awake_f]
  simp only [bsome, if_true]
  by_cases hf : IsF a n
  · have hf' := hf
    obtain ⟨h1, h2, h3, h4⟩ := hf'
    rw [is_yes hf, signed_yes hf w0 w1, max_yes hf, get_yes hf w0 w1]
    simp only [bsome, if_true]
    have hG := get_lt (a := a.toNat) (n := n.toNat) (by omega) (B w)
    have hI : I (getB a.toNat n.toNat (B w)) = ((getB a.toNat n.toNat (B w)).toNat : Int) := rfl
    have hN : BitVec.ofNat 64 (getB a.toNat n.toNat (B w)).toNat = getB a.toNat n.toNat (B w) := BitVec.eq_of_toNat_eq (by rw [BitVec.toNat_ofNat]; exact Nat.mod_eq_of_lt (BitVec.isLt _))
    have hA := sgn_and (n := n.toNat) (by omega) (by omega) hG
    rw [hN] at hA
    obtain ⟨p1, p2, p3⟩ := pow_split (n := n.toNat) (by omega) (by omega)
    have hM : I (mask n.toNat) = ((2 ^ n.toNat - 1 : Nat) : Int) := by unfold I; rw [mask_toNat (by omega)]
    have hpos := Nat.two_pow_pos (n.toNat - 1)
    have hsm : 2 ^ n.toNat ≤ 18446744073709551616 := by
      have : 2 ^ n.toNat ≤ 2 ^ 64 := Nat.pow_le_pow_right (by decide) (by omega)
      have e64 : (2 : Nat) ^ 64 = 18446744073709551616 := by decide
      omega
    have hD : IntKind.u64.wrap (Int.tdiv (I (mask n.toNat)) 2) = ((2 ^ (n.toNat - 1) - 1 : Nat) : Int) := by
      rw [hM, Int.tdiv_eq_ediv_of_nonneg (by omega), wrapU_mod]
      omega
    have hB : Go.bits .and .u64 (IntKind.u64.wrap (sgn n.toNat (getB a.toNat n.toNat (B w)).toNat)) (I (mask n.toNat)) = I (getB a.toNat n.toNat (B w)) := by
      rw [bitsU_and, B_wrapU, B_I, hA]
    rw [if_pos hB, whole w0 w1]
    simp only [bsome, if_true]
    rw [hD, hI]
    have ec : ((2 : Int) ^ n.toNat) = ((2 ^ n.toNat : Nat) : Int) := by rw [Int.natCast_pow]; rfl
    by_cases hs : 2 ^ (n.toNat - 1) ≤ (getB a.toNat n.toNat (B w)).toNat
    · have e : sgn n.toNat (getB a.toNat n.toNat (B w)).toNat < 0 := by unfold sgn; rw [if_pos hs, ec]; omega
      rw [if_pos e, if_neg (by omega), if_neg (by omega)]
      exact signs_tail w0 w1 8
    · have e : ¬ sgn n.toNat (getB a.toNat n.toNat (B w)).toNat < 0 := by unfold sgn; rw [if_neg hs]; omega
      rw [if_neg e, if_pos (by omega), decide_eq_false (by omega)]
      exact signs_tail w0 w1 8
  · rw [is_no hf, signed_no hf]
    simp
theorem RFieldSigns (a n w c d : Int) (_ : (Lit.int .i64 a).wf = true ∧ (Lit.int .i64 n).wf = true) (g : (Lit.int .u64 w).wf = true) (_ : (Lit.int .i64 c).wf = true) (_ : (Lit.int .i64 d).wf = true) :
    ∃ k, revenantlaw01_FieldSigns.f k a n w c d = some true := ⟨9, FieldSigns _ _ _ _ _ g⟩
end Go.Proofs.Ytmdncdepdnpjiaa.Pure
