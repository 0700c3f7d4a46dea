/-
Of every word and every number: turned by it, and read as an int, the program's answers are the document's. No condition beyond the row's own.
-/
import Derived.Test.YtmdncdepdnpjiaaPFieldTurnsx2
import Derived.Test.YtmdncdepdnpjiaaWords
namespace Go.Proofs.Ytmdncdepdnpjiaa.PFieldTurns
open Go Go.RowKit Go.Proofs.YtmdncdepdnpjiaaW.PrintWords Go.Proofs.YtmdncdepdnpjiaaW.PrintLast Go.Proofs.YtmdncdepdnpjiaaW.PrintMore Go.Proofs.Ytmdncdepdnpjiaa.U
set_option linter.unusedVariables false

/-- A field that can be. -/
def IsF (a n : Int) : Prop := 0 ≤ a ∧ 1 ≤ n ∧ n ≤ 64 ∧ a ≤ 64 - n
instance (a n : Int) : Decidable (IsF a n) := by unfold IsF; exact inferInstance
theorem is_f (a n : Int) : field_Field_Is.f a n = some (decide (IsF a n)) := by
  unfold field_Field_Is.f IsF
  by_cases h1 : 0 ≤ a
  · by_cases h2 : 1 ≤ n
    · by_cases h3 : n ≤ 64
      · rw [if_pos h1, if_pos h2, if_pos h3, w64 (by omega) (by omega)]
        simp [h1, h2, h3]
      · rw [if_pos h1, if_pos h2, if_neg h3]
        simp [h3]
    · rw [if_pos h1, if_neg h2]
      simp [h2]
  · rw [if_neg h1]
    simp [h1]
theorem is_yes {a n : Int} (h : IsF a n) : field_Field_Is.f a n = some true := by rw [is_f, decide_eq_true h]
theorem is_no {a n : Int} (h : ¬ IsF a n) : field_Field_Is.f a n = some false := by rw [is_f, decide_eq_false h]
theorem wrapU_small {x : Int} (h0 : 0 ≤ x) (h1 : x < 18446744073709551616) : IntKind.u64.wrap x = x := by rw [wrapU_mod]; omega
theorem max_yes {a n : Int} (h : IsF a n) : field_Field_Max.f a n = some (I (mask n.toNat)) := by
  have h' := h
  obtain ⟨h1, h2, h3, h4⟩ := h
  unfold field_Field_Max.f
  rw [is_yes h']
  simp only [Option.bind_some, if_true]
  rw [w64 (by omega) (by omega), wrapU_small (by omega) (by omega), if_pos (by omega), shrU (by omega) (by omega)]
  congr 2
  unfold mask
  have e : B 18446744073709551615 = BitVec.allOnes 64 := by decide
  rw [e]
  congr 1
  omega
theorem max_no {a n : Int} (h : ¬ IsF a n) : field_Field_Max.f a n = some 0 := by
  unfold field_Field_Max.f
  rw [is_no h]
  rfl
theorem get_yes {a n w : Int} (h : IsF a n) (w0 : 0 ≤ w) (w1 : w < 18446744073709551616) : field_Field_Get.f a n w = some (I (getB a.toNat n.toNat (B w))) := by
  have h' := h
  obtain ⟨h1, h2, h3, h4⟩ := h
  unfold field_Field_Get.f
  rw [is_yes h', max_yes h']
  simp only [Option.bind_some, if_true]
  rw [wrapU_small (by omega) (by omega), if_pos h1, shrU w0 w1, bitsU_and, B_I, B_I]
  rfl
theorem get_no {a n w : Int} (h : ¬ IsF a n) : field_Field_Get.f a n w = some 0 := by
  unfold field_Field_Get.f
  rw [is_no h]
  rfl
theorem put_yes {a n w x : Int} (h : IsF a n) (hx : x ≤ I (mask n.toNat)) : field_Field_Put.f a n w x = some (I (putB a.toNat n.toNat (B w) (B x)), true) := by
  have h' := h
  obtain ⟨h1, h2, h3, h4⟩ := h
  unfold field_Field_Put.f
  rw [is_yes h', max_yes h']
  simp only [Option.bind_some, if_true]
  rw [if_neg (by omega), wrapU_small (by omega) (by omega), if_pos h1, shlU, shlU, bitsU_andNot, bitsU_or, B_I, B_I, B_I, B_I]
  rfl
theorem put_great {a n w x : Int} (h : IsF a n) (hx : ¬ x ≤ I (mask n.toNat)) : field_Field_Put.f a n w x = some (0, false) := by
  unfold field_Field_Put.f
  rw [is_yes h, max_yes h]
  simp only [Option.bind_some, if_true]
  rw [if_pos (by omega)]
theorem put_no {a n w x : Int} (h : ¬ IsF a n) : field_Field_Put.f a n w x = some (0, false) := by
  unfold field_Field_Put.f
  rw [is_no h]
  rfl
theorem turn_f {w n : Int} (w0 : 0 ≤ w) (w1 : w < 18446744073709551616) : field_Turn.f w n = some (I (turnB (n % 64).toNat (B w))) := by
  have e : Int.tmod (IntKind.u64.wrap n) 64 = n % 64 := by
    rw [wrapU_mod, Int.tmod_eq_emod_of_nonneg (by omega)]
    omega
  unfold field_Turn.f
  rw [e, if_pos (by omega), wrapU_small (by omega) (by omega), if_pos (by omega), shlU, shrU w0 w1, bitsU_or, B_I, B_I]
  congr 2
  unfold turnB
  congr 2
  omega
theorem int_f {w : Int} (w0 : 0 ≤ w) (w1 : w < 18446744073709551616) : field_Int.f w = some (if w < 9223372036854775808 then (w, true) else (0, false)) := by
  unfold field_Int.f
  by_cases h : w < 9223372036854775808
  · rw [w64 (by omega) (by omega), if_neg (by omega), if_pos h]
  · rw [if_pos (by unfold wrap64; omega), if_neg h]
theorem awake_f : revenantlaw01_awake.f = some true := by decide +kernel
end Go.Proofs.Ytmdncdepdnpjiaa.PFieldTurns
namespace Go.Proofs.Ytmdncdepdnpjiaa.PFieldTurns
open Go Go.RowKit Go.Proofs.YtmdncdepdnpjiaaW.PrintWords Go.Proofs.YtmdncdepdnpjiaaW.PrintLast Go.Proofs.YtmdncdepdnpjiaaW.PrintMore Go.Proofs.Ytmdncdepdnpjiaa.U
set_option linter.unusedVariables false
theorem bit_l (d : Nat) : ∀ (k : Nat) (w c i : Int), 0 ≤ w → w < 18446744073709551616 → 0 ≤ i → i ≤ c → c ≤ 64 → c - i = d → d < k →
    revenantref01_Bit.l0 k w c i = some (((w.toNat.testBit d).toNat : Nat) : Int) := by
  induction d with
  | zero =>
    intro k w c i h0 h1 h2 h3 h4 h5 h6
    obtain ⟨k, rfl⟩ : ∃ m, k = m + 1 := ⟨k - 1, by omega⟩
    simp only [revenantref01_Bit.l0]
    rw [if_neg (by omega)]
    congr 1
    rw [← testBit_of, Int.tmod_eq_emod_of_nonneg h0]
    simp
    omega
  | succ d ih =>
    intro k w c i h0 h1 h2 h3 h4 h5 h6
    obtain ⟨k, rfl⟩ : ∃ m, k = m + 1 := ⟨k - 1, by omega⟩
    simp only [revenantref01_Bit.l0]
    rw [if_pos (by omega), Int.tdiv_eq_ediv_of_nonneg h0, wrapU_mod, w64 (by omega) (by omega), Int.emod_eq_of_lt (by omega) (by omega)]
    rw [ih k (w / 2) c (i + 1) (by omega) (by omega) (by omega) (by omega) h4 (by omega) (by omega)]
    congr 3
    have : (w / 2).toNat = w.toNat / 2 := by omega
    rw [this, Nat.testBit_succ]
theorem bit_f {k : Nat} {w c : Int} (h0 : 0 ≤ w) (h1 : w < 18446744073709551616) (h2 : 0 ≤ c) (h3 : c ≤ 64) (h4 : 64 < k) : revenantref01_Bit.f k w c = some (((w.toNat.testBit c.toNat).toNat : Nat) : Int) := by
  unfold revenantref01_Bit.f
  exact bit_l c.toNat k w c 0 h0 h1 (by omega) h2 h3 (by omega) (by omega)
end Go.Proofs.Ytmdncdepdnpjiaa.PFieldTurns
namespace Go.Proofs.Ytmdncdepdnpjiaa.PFieldTurns
open Go Go.RowKit Go.Proofs.YtmdncdepdnpjiaaW.PrintWords Go.Proofs.YtmdncdepdnpjiaaW.PrintLast Go.Proofs.YtmdncdepdnpjiaaW.PrintMore Go.Proofs.Ytmdncdepdnpjiaa.U
theorem turn_l {w c : Int} (h0 : 0 ≤ w) (h1 : w < 18446744073709551616) (c0 : 0 ≤ c) (c1 : c < 64) (d : Nat) : ∀ (k : Nat) (v i : Int), i + 1 = d → d ≤ 64 → v = (((turnB c.toNat (B w)).toNat / 2 ^ d : Nat) : Int) → d + 65 < k →
    revenantref01_Turn.l0 k w c v i = some (I (turnB c.toNat (B w))) := by
  have ht := (turnB c.toNat (B w)).isLt
  induction d with
  | zero =>
    intro k v i hi hd hv hk
    obtain ⟨k, rfl⟩ : ∃ m, k = m + 1 := ⟨k - 1, by omega⟩
    simp only [revenantref01_Turn.l0]
    rw [if_neg (by omega), hv]
    simp [I]
  | succ d ih =>
    intro k v i hi hd hv hk
    obtain ⟨k, rfl⟩ : ∃ m, k = m + 1 := ⟨k - 1, by omega⟩
    simp only [revenantref01_Turn.l0]
    have e : Int.tmod (wrap64 (wrap64 (i + 64) - c)) 64 = (i + 64 - c) % 64 := by
      rw [w64 (x := i + 64) (by omega) (by omega), w64 (by omega) (by omega), Int.tmod_eq_emod_of_nonneg (by omega)]
    rw [if_pos (by omega), e, bit_f h0 h1 (by omega) (by omega) (by omega)]
    simp only [Option.bind_some]
    have hb := turn_bit (k := c.toNat) (by omega) (B w) d (by omega)
    unfold BitVec.getLsbD at hb
    have e2 : w.toNat.testBit ((i + 64 - c) % 64).toNat = (turnB c.toNat (B w)).toNat.testBit d := by
      rw [hb]
      have e3 : (B w).toNat = w.toNat := by rw [toNat_B, Int.emod_eq_of_lt h0 h1]
      rw [e3]
      congr 1
      omega
    have hg := gather_step (turnB c.toNat (B w)).toNat d
    have hlt : (turnB c.toNat (B w)).toNat / 2 ^ d < 2 ^ 64 := Nat.lt_of_le_of_lt (Nat.div_le_self _ _) ht
    rw [e2, hv]
    have e4 : IntKind.u64.wrap (IntKind.u64.wrap ((((turnB c.toNat (B w)).toNat / 2 ^ (d + 1) : Nat) : Int) * 2) + (((turnB c.toNat (B w)).toNat.testBit d).toNat : Int)) = (((turnB c.toNat (B w)).toNat / 2 ^ d : Nat) : Int) := by
      rw [← hg]
      rw [← hg] at hlt
      generalize (turnB c.toNat (B w)).toNat / 2 ^ (d + 1) = A at *
      generalize ((turnB c.toNat (B w)).toNat.testBit d).toNat = C at *
      rw [wrapU_mod, wrapU_mod]
      omega
    rw [e4]
    exact ih k _ _ (by rw [w64 (by omega) (by omega)]; omega) (by omega) rfl (by omega)
theorem ref_turn {w n : Int} (h0 : 0 ≤ w) (h1 : w < 18446744073709551616) (n0 : -9223372036854775808 ≤ n) (n1 : n < 9223372036854775808) : revenantref01_Turn.f 200 w n = some (I (turnB (n % 64).toNat (B w))) := by
  have top : (0 : Int) = (((turnB (n % 64).toNat (B w)).toNat / 2 ^ 64 : Nat) : Int) := by rw [gather_top]; rfl
  unfold revenantref01_Turn.f
  by_cases hn : Int.tmod n 64 < 0
  · have e : wrap64 (Int.tmod n 64 + 64) = n % 64 := by
      have hneg : n < 0 := by
        refine Classical.byContradiction fun hc => ?_
        rw [tmod_pos (by omega)] at hn
        omega
      rw [tmod_neg hneg] at hn ⊢
      rw [w64 (by omega) (by omega)]
      omega
    rw [if_pos hn, e]
    simp only [revenantref01_Turn.j0]
    exact turn_l h0 h1 (by omega) (by omega) 64 199 0 63 (by omega) (by omega) top (by omega)
  · have e : Int.tmod n 64 = n % 64 := by
      by_cases h : n < 0
      · rw [tmod_neg h] at hn ⊢
        omega
      · exact tmod_pos (by omega)
    rw [if_neg hn, e]
    simp only [revenantref01_Turn.j0]
    exact turn_l h0 h1 (by omega) (by omega) 64 199 0 63 (by omega) (by omega) top (by omega)
end Go.Proofs.Ytmdncdepdnpjiaa.PFieldTurns
namespace Go.Proofs.Ytmdncdepdnpjiaa.Pure
open Go Go.RowKit Go.Proofs.Ytmdncdepdnpjiaa.PFieldTurns Go.Proofs.YtmdncdepdnpjiaaW.PrintWords Go.Proofs.YtmdncdepdnpjiaaW.PrintLast Go.Proofs.Ytmdncdepdnpjiaa.U
theorem FieldTurns : revenantlaw01_FieldTurns.Pure := by
  intro w n hw hn
  rw [wf_u64] at hw
  rw [wf_i64] at hn
  obtain ⟨h0, h1⟩ := hw
  refine ⟨201, ?_⟩
  unfold revenantlaw01_FieldTurns.f
  rw [awake_f, int_f h0 h1]
  simp only [Option.bind_some, if_true]
  by_cases h : w < 9223372036854775808
  · rw [if_pos h]
    simp only [decide_eq_true h, bne_self_eq_false, Bool.false_eq_true, if_false, if_true]
    rw [wrapU_small h0 h1, if_pos rfl]
    simp only [revenantlaw01_FieldTurns.j0, Bool.false_eq_true, if_false]
    rw [turn_f h0 h1, ref_turn h0 h1 hn.1 hn.2]
    simp
  · rw [if_neg h]
    simp only [decide_eq_false h, bne_self_eq_false, Bool.false_eq_true, if_false]
    simp only [revenantlaw01_FieldTurns.j0, Bool.false_eq_true, if_false]
    rw [turn_f h0 h1, ref_turn h0 h1 hn.1 hn.2]
    simp
end Go.Proofs.Ytmdncdepdnpjiaa.Pure
