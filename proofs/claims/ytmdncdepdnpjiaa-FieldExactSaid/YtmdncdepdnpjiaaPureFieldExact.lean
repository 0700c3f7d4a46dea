/-
Of every field, word and number: all answers are the document's, bit by bit. No condition beyond the row's own.
-/
import Derived.Test.YtmdncdepdnpjiaaTFieldExact
import Derived.Test.YtmdncdepdnpjiaaWords
namespace Go.Proofs.Ytmdncdepdnpjiaa.PFieldExact
open Go Go.RowKit Go.Proofs.YtmdncdepdnpjiaaW.PrintWords Go.Proofs.YtmdncdepdnpjiaaW.PrintLast Go.Proofs.YtmdncdepdnpjiaaW.PrintMore Go.Proofs.Ytmdncdepdnpjiaa.U
set_option linter.unusedVariables false

/-- A field that can be. -/
def IsF (a n : Int) : Prop := 0 ≤ a ∧ 1 ≤ n ∧ n ≤ 64 ∧ a ≤ 64 - n
instance (a n : Int) : Decidable (IsF a n) := by unfold IsF; exact inferInstance
theorem is_f (a n : Int) : field_Field_Is.f a n = some (decide (IsF a n)) := by
  unfold field_Field_Is.f IsF
  by_cases h1 : 0 ≤ a
  · by_cases h2 : 1 ≤ n
    · by_cases h3 : n ≤ 64
      · rw [if_pos h1, if_pos h2, if_pos h3, w64 (by omega) (by omega)]
        simp [h1, h2, h3]
      · rw [if_pos h1, if_pos h2, if_neg h3]
        simp [h3]
    · rw [if_pos h1, if_neg h2]
      simp [h2]
  · rw [if_neg h1]
    simp [h1]
theorem is_yes {a n : Int} (h : IsF a n) : field_Field_Is.f a n = some true := by rw [is_f, decide_eq_true h]
theorem is_no {a n : Int} (h : ¬ IsF a n) : field_Field_Is.f a n = some false := by rw [is_f, decide_eq_false h]
theorem wrapU_small {x : Int} (h0 : 0 ≤ x) (h1 : x < 18446744073709551616) : IntKind.u64.wrap x = x := by rw [wrapU_mod]; omega
theorem max_yes {a n : Int} (h : IsF a n) : field_Field_Max.f a n = some (I (mask n.toNat)) := by
  have h' := h
  obtain ⟨h1, h2, h3, h4⟩ := h
  unfold field_Field_Max.f
  rw [is_yes h']
  simp only [Option.bind_some, if_true]
  rw [w64 (by omega) (by omega), wrapU_small (by omega) (by omega), if_pos (by omega), shrU (by omega) (by omega)]
  congr 2
  unfold mask
  have e : B 18446744073709551615 = BitVec.allOnes 64 := by decide
  rw [e]
  congr 1
  omega
theorem max_no {a n : Int} (h : ¬ IsF a n) : field_Field_Max.f a n = some 0 := by
  unfold field_Field_Max.f
  rw [is_no h]
  rfl
theorem get_yes {a n w : Int} (h : IsF a n) (w0 : 0 ≤ w) (w1 : w < 18446744073709551616) : field_Field_Get.f a n w = some (I (getB a.toNat n.toNat (B w))) := by
  have h' := h
  obtain ⟨h1, h2, h3, h4⟩ := h
  unfold field_Field_Get.f
  rw [is_yes h', max_yes h']
  simp only [Option.bind_some, if_true]
  rw [wrapU_small (by omega) (by omega), if_pos h1, shrU w0 w1, bitsU_and, B_I, B_I]
  rfl
theorem get_no {a n w : Int} (h : ¬ IsF a n) : field_Field_Get.f a n w = some 0 := by
  unfold field_Field_Get.f
  rw [is_no h]
  rfl
theorem put_yes {a n w x : Int} (h : IsF a n) (hx : x ≤ I (mask n.toNat)) : field_Field_Put.f a n w x = some (I (putB a.toNat n.toNat (B w) (B x)), true) := by
  have h' := h
  obtain ⟨h1, h2, h3, h4⟩ := h
  unfold field_Field_Put.f
  rw [is_yes h', max_yes h']
  simp only [Option.bind_some, if_true]
  rw [if_neg (by omega), wrapU_small (by omega) (by omega), if_pos h1, shlU, shlU, bitsU_andNot, bitsU_or, B_I, B_I, B_I, B_I]
  rfl
theorem put_great {a n w x : Int} (h : IsF a n) (hx : ¬ x ≤ I (mask n.toNat)) : field_Field_Put.f a n w x = some (0, false) := by
  unfold field_Field_Put.f
  rw [is_yes h, max_yes h]
  simp only [Option.bind_some, if_true]
  rw [if_pos (by omega)]
theorem put_no {a n w x : Int} (h : ¬ IsF a n) : field_Field_Put.f a n w x = some (0, false) := by
  unfold field_Field_Put.f
  rw [is_no h]
  rfl
theorem turn_f {w n : Int} (w0 : 0 ≤ w) (w1 : w < 18446744073709551616) : field_Turn.f w n = some (I (turnB (n % 64).toNat (B w))) := by
  have e : Int.tmod (IntKind.u64.wrap n) 64 = n % 64 := by
    rw [wrapU_mod, Int.tmod_eq_emod_of_nonneg (by omega)]
    omega
  unfold field_Turn.f
  rw [e, if_pos (by omega), wrapU_small (by omega) (by omega), if_pos (by omega), shlU, shrU w0 w1, bitsU_or, B_I, B_I]
  congr 2
  unfold turnB
  congr 2
  omega
theorem int_f {w : Int} (w0 : 0 ≤ w) (w1 : w < 18446744073709551616) : field_Int.f w = some (if w < 9223372036854775808 then (w, true) else (0, false)) := by
  unfold field_Int.f
  by_cases h : w < 9223372036854775808
  · rw [w64 (by omega) (by omega), if_neg (by omega), if_pos h]
  · rw [if_pos (by unfold wrap64; omega), if_neg h]
theorem awake_f : revenantlaw01_awake.f = some true := by decide +kernel
end Go.Proofs.Ytmdncdepdnpjiaa.PFieldExact
namespace Go.Proofs.Ytmdncdepdnpjiaa.U
/-- A field's number, with its sign. -/
def sgn (n : Nat) (g : Nat) : Int := if 2 ^ (n - 1) ≤ g then (g : Int) - 2 ^ n else g
theorem get_lt {a n : Nat} (hn : n ≤ 64) (w : BitVec 64) : (getB a n w).toNat < 2 ^ n := by
  have h := le_of_fits hn (fits_get (a := a) hn w)
  rw [mask_toNat hn] at h
  have := Nat.two_pow_pos n
  omega
theorem pow_split {n : Nat} (h1 : 1 ≤ n) (h2 : n ≤ 64) : 2 ^ n * 2 ^ (64 - n) = 18446744073709551616 ∧ 2 ^ (n - 1) * 2 ^ (64 - n) = 9223372036854775808 ∧ 2 ^ n = 2 * 2 ^ (n - 1) := by
  refine ⟨?_, ?_, ?_⟩
  · rw [← Nat.pow_add, show n + (64 - n) = 64 by omega]
  · rw [← Nat.pow_add, show n - 1 + (64 - n) = 63 by omega]
  · obtain ⟨m, rfl⟩ : ∃ m, n = m + 1 := ⟨n - 1, by omega⟩
    rw [Nat.add_sub_cancel, Nat.pow_succ, Nat.mul_comm]
end Go.Proofs.Ytmdncdepdnpjiaa.U
namespace Go.Proofs.Ytmdncdepdnpjiaa.PFieldExact
open Go Go.RowKit Go.Proofs.YtmdncdepdnpjiaaW.PrintWords Go.Proofs.YtmdncdepdnpjiaaW.PrintLast Go.Proofs.YtmdncdepdnpjiaaW.PrintMore Go.Proofs.Ytmdncdepdnpjiaa.U
set_option linter.unusedVariables false
theorem signed_yes {a n w : Int} (h : IsF a n) (w0 : 0 ≤ w) (w1 : w < 18446744073709551616) : field_Field_Signed.f a n w = some (sgn n.toNat (getB a.toNat n.toNat (B w)).toNat) := by
  have h' := h
  obtain ⟨h1, h2, h3, h4⟩ := h
  have hG := get_lt (a := a.toNat) (n := n.toNat) (by omega) (B w)
  unfold field_Field_Signed.f
  rw [is_yes h', get_yes h' w0 w1]
  simp only [Option.bind_some, if_true]
  rw [w64 (x := 64 - n) (by omega) (by omega), wrapU_small (by omega) (by omega), if_pos (by omega), shlU, B_I]
  have eu : (64 - n).toNat = 64 - n.toNat := by omega
  obtain ⟨p1, p2, p3⟩ := pow_split (n := n.toNat) (by omega) (by omega)
  rw [eu]
  generalize n.toNat = m at *
  generalize getB a.toNat m (B w) = g at *
  have e1 : I (g <<< (64 - m)) = ((g.toNat * 2 ^ (64 - m) : Nat) : Int) := by
    unfold I
    rw [BitVec.toNat_shiftLeft, Nat.shiftLeft_eq, Nat.mod_eq_of_lt]
    calc g.toNat * 2 ^ (64 - m) < 2 ^ m * 2 ^ (64 - m) := (Nat.mul_lt_mul_right (Nat.two_pow_pos _)).2 hG
      _ = 2 ^ 64 := by rw [p1]
  rw [e1]
  unfold shr
  have em : min (64 - n).toNat IntKind.i64.bits = 64 - m := by
    rw [eu]
    show min (64 - m) 64 = 64 - m
    omega
  rw [em]
  congr 1
  have hP : (0 : Int) < 2 ^ (64 - m) := by
    have := Nat.two_pow_pos (64 - m)
    have e : ((2 : Int) ^ (64 - m)) = ((2 ^ (64 - m) : Nat) : Int) := by rw [Int.natCast_pow]; rfl
    rw [e]
    omega
  unfold sgn
  have hc : ((g.toNat * 2 ^ (64 - m) : Nat) : Int) = (g.toNat : Int) * 2 ^ (64 - m) := by rw [Int.natCast_mul, Int.natCast_pow]; rfl
  have q1 : ((2 : Int) ^ m) * 2 ^ (64 - m) = 18446744073709551616 := by
    have e : ((2 : Int) ^ m) * 2 ^ (64 - m) = ((2 ^ m * 2 ^ (64 - m) : Nat) : Int) := by rw [Int.natCast_mul, Int.natCast_pow, Int.natCast_pow]; rfl
    rw [e, p1]
    rfl
  by_cases hs : 2 ^ (m - 1) ≤ g.toNat
  · rw [if_pos hs]
    have hge : 9223372036854775808 ≤ g.toNat * 2 ^ (64 - m) := by rw [← p2]; exact Nat.mul_le_mul_right _ hs
    have hlt : g.toNat * 2 ^ (64 - m) < 18446744073709551616 := by rw [← p1]; exact (Nat.mul_lt_mul_right (Nat.two_pow_pos _)).2 hG
    have e2 : wrap64 ((g.toNat * 2 ^ (64 - m) : Nat) : Int) = ((g.toNat : Int) - 2 ^ m) * 2 ^ (64 - m) := by
      rw [Int.sub_mul, q1, ← hc]
      unfold wrap64
      omega
    rw [e2, Int.mul_ediv_cancel _ (by omega)]
  · rw [if_neg hs]
    have hlt : g.toNat * 2 ^ (64 - m) < 9223372036854775808 := by rw [← p2]; exact (Nat.mul_lt_mul_right (Nat.two_pow_pos _)).2 (by omega)
    rw [w64 (by omega) (by omega), hc, Int.mul_ediv_cancel _ (by omega)]
theorem signed_no {a n w : Int} (h : ¬ IsF a n) : field_Field_Signed.f a n w = some 0 := by
  unfold field_Field_Signed.f
  rw [is_no h]
  rfl
end Go.Proofs.Ytmdncdepdnpjiaa.PFieldExact
namespace Go.Proofs.Ytmdncdepdnpjiaa.PFieldExact
open Go Go.RowKit Go.Proofs.YtmdncdepdnpjiaaW.PrintWords Go.Proofs.YtmdncdepdnpjiaaW.PrintLast Go.Proofs.YtmdncdepdnpjiaaW.PrintMore Go.Proofs.Ytmdncdepdnpjiaa.U
set_option linter.unusedVariables false
theorem bit_l (d : Nat) : ∀ (k : Nat) (w c i : Int), 0 ≤ w → w < 18446744073709551616 → 0 ≤ i → i ≤ c → c ≤ 64 → c - i = d → d < k →
    revenantref01_Bit.l0 k w c i = some (((w.toNat.testBit d).toNat : Nat) : Int) := by
  induction d with
  | zero =>
    intro k w c i h0 h1 h2 h3 h4 h5 h6
    obtain ⟨k, rfl⟩ : ∃ m, k = m + 1 := ⟨k - 1, by omega⟩
    simp only [revenantref01_Bit.l0]
    rw [if_neg (by omega)]
    congr 1
    rw [← testBit_of, Int.tmod_eq_emod_of_nonneg h0]
    simp
    omega
  | succ d ih =>
    intro k w c i h0 h1 h2 h3 h4 h5 h6
    obtain ⟨k, rfl⟩ : ∃ m, k = m + 1 := ⟨k - 1, by omega⟩
    simp only [revenantref01_Bit.l0]
    rw [if_pos (by omega), Int.tdiv_eq_ediv_of_nonneg h0, wrapU_mod, w64 (by omega) (by omega), Int.emod_eq_of_lt (by omega) (by omega)]
    rw [ih k (w / 2) c (i + 1) (by omega) (by omega) (by omega) (by omega) h4 (by omega) (by omega)]
    congr 3
    have : (w / 2).toNat = w.toNat / 2 := by omega
    rw [this, Nat.testBit_succ]
theorem bit_f {k : Nat} {w c : Int} (h0 : 0 ≤ w) (h1 : w < 18446744073709551616) (h2 : 0 ≤ c) (h3 : c ≤ 64) (h4 : 64 < k) : revenantref01_Bit.f k w c = some (((w.toNat.testBit c.toNat).toNat : Nat) : Int) := by
  unfold revenantref01_Bit.f
  exact bit_l c.toNat k w c 0 h0 h1 (by omega) h2 h3 (by omega) (by omega)
end Go.Proofs.Ytmdncdepdnpjiaa.PFieldExact
namespace Go.Proofs.Ytmdncdepdnpjiaa.PFieldExact
open Go Go.RowKit Go.Proofs.YtmdncdepdnpjiaaW.PrintWords Go.Proofs.YtmdncdepdnpjiaaW.PrintLast Go.Proofs.YtmdncdepdnpjiaaW.PrintMore Go.Proofs.Ytmdncdepdnpjiaa.U
set_option linter.unusedVariables false
theorem ris_f (a n : Int) : revenantref01_Field_Is.f a n = some (decide (IsF a n)) := by
  unfold revenantref01_Field_Is.f
  by_cases h : IsF a n
  · obtain ⟨h1, h2, h3, h4⟩ := id h
    rw [decide_eq_true h, if_pos (by omega), if_pos (by omega), if_pos (by omega), w64 (by omega) (by omega), decide_eq_true (by omega)]
  · rw [decide_eq_false h]
    unfold IsF at h
    by_cases h1 : a ≥ 0
    · rw [if_pos h1]
      by_cases h2 : a ≤ 63
      · rw [if_pos h2]
        by_cases h3 : n ≥ 1
        · rw [if_pos h3, w64 (by omega) (by omega), decide_eq_false (by omega)]
        · rw [if_neg h3]
      · rw [if_neg h2]
    · rw [if_neg h1]
theorem ris_yes {a n : Int} (h : IsF a n) : revenantref01_Field_Is.f a n = some true := by rw [ris_f, decide_eq_true h]
theorem ris_no {a n : Int} (h : ¬ IsF a n) : revenantref01_Field_Is.f a n = some false := by rw [ris_f, decide_eq_false h]
theorem rmax_l {a n : Int} (h : IsF a n) (d : Nat) : ∀ (k i : Nat), i ≤ n.toNat → n.toNat - i = d → d < k → revenantref01_Field_Max.l0 k ((2 ^ i - 1 : Nat) : Int) (i : Int) a n = some ((2 ^ n.toNat - 1 : Nat) : Int) := by
  have h' := h
  obtain ⟨h1, h2, h3, h4⟩ := h'
  induction d with
  | zero =>
    intro k i h0 hd hk
    obtain ⟨k, rfl⟩ : ∃ m, k = m + 1 := ⟨k - 1, by omega⟩
    simp only [revenantref01_Field_Max.l0]
    rw [if_neg (by omega), show i = n.toNat by omega]
  | succ d ih =>
    intro k i h0 hd hk
    obtain ⟨k, rfl⟩ : ∃ m, k = m + 1 := ⟨k - 1, by omega⟩
    simp only [revenantref01_Field_Max.l0]
    rw [if_pos (by omega), ris_yes h]
    simp only [bsome, if_true]
    have nx := ih k (i + 1) (by omega) (by omega) (by omega)
    have hp : 2 ^ i ≤ 9223372036854775808 := Nat.le_trans (Nat.pow_le_pow_right (by decide) (by omega : i ≤ 63)) (by decide)
    have hpos := Nat.two_pow_pos i
    have e : IntKind.u64.wrap (IntKind.u64.wrap (((2 ^ i - 1 : Nat) : Int) * 2) + 1) = ((2 ^ (i + 1) - 1 : Nat) : Int) := by
      rw [Nat.pow_succ, wrapU_mod, wrapU_mod]
      omega
    have e2 : wrap64 ((i : Int) + 1) = ((i + 1 : Nat) : Int) := by rw [w64 (by omega) (by omega)]; omega
    rw [e, e2]
    exact nx
theorem rmax_yes {a n : Int} (h : IsF a n) {k : Nat} (hk : 64 < k) : revenantref01_Field_Max.f k a n = some (I (mask n.toNat)) := by
  have h' := h
  obtain ⟨h1, h2, h3, h4⟩ := h'
  unfold revenantref01_Field_Max.f I
  rw [mask_toNat (by omega)]
  exact rmax_l h n.toNat k 0 (by omega) (by omega) (by omega)
theorem rmax_no {a n : Int} (h : ¬ IsF a n) {k : Nat} (hk : 0 < k) : revenantref01_Field_Max.f k a n = some 0 := by
  obtain ⟨k, rfl⟩ : ∃ m, k = m + 1 := ⟨k - 1, by omega⟩
  unfold revenantref01_Field_Max.f
  simp only [revenantref01_Field_Max.l0]
  rw [ris_no h]
  split
  · rfl
  · rfl
theorem gatherU (V j : Nat) (hV : V < 18446744073709551616) : IntKind.u64.wrap (IntKind.u64.wrap (((V / 2 ^ (j + 1) : Nat) : Int) * 2) + (((V.testBit j).toNat : Nat) : Int)) = ((V / 2 ^ j : Nat) : Int) := by
  have hg := gather_step V j
  have hlt : V / 2 ^ j ≤ V := Nat.div_le_self _ _
  rw [← hg] at hlt ⊢
  generalize V / 2 ^ (j + 1) = A at *
  generalize (V.testBit j).toNat = C at *
  rw [wrapU_mod, wrapU_mod]
  omega
theorem rget_l {a n w : Int} (h : IsF a n) (w0 : 0 ≤ w) (w1 : w < 18446744073709551616) (d : Nat) : ∀ (k : Nat) (i : Int), i + 1 = d → d ≤ n.toNat → d + 65 < k →
    revenantref01_Field_Get.l0 k w (((getB a.toNat n.toNat (B w)).toNat / 2 ^ d : Nat) : Int) i a n = some (I (getB a.toNat n.toNat (B w))) := by
  have h' := h
  obtain ⟨h1, h2, h3, h4⟩ := h'
  have hV := (getB a.toNat n.toNat (B w)).isLt
  induction d with
  | zero =>
    intro k i hi hd hk
    obtain ⟨k, rfl⟩ : ∃ m, k = m + 1 := ⟨k - 1, by omega⟩
    simp only [revenantref01_Field_Get.l0]
    rw [if_neg (by omega)]
    simp [I]
  | succ d ih =>
    intro k i hi hd hk
    obtain ⟨k, rfl⟩ : ∃ m, k = m + 1 := ⟨k - 1, by omega⟩
    simp only [revenantref01_Field_Get.l0]
    rw [if_pos (by omega), w64 (x := a + i) (by omega) (by omega), bit_f w0 w1 (by omega) (by omega) (by omega)]
    simp only [bsome]
    have hb := get_bit (a := a.toNat) (n := n.toNat) (by omega) (B w) d
    unfold BitVec.getLsbD at hb
    have hd2 : d < n.toNat := by omega
    have e3 : (B w).toNat = w.toNat := by rw [toNat_B, Int.emod_eq_of_lt w0 w1]
    have e2 : w.toNat.testBit (a + i).toNat = (getB a.toNat n.toNat (B w)).toNat.testBit d := by
      rw [hb, e3, decide_eq_true hd2, Bool.true_and]
      congr 1
      omega
    rw [e2, gatherU _ _ hV]
    exact ih k _ (by rw [w64 (by omega) (by omega)]; omega) (by omega) (by omega)
theorem rget_yes {a n w : Int} (h : IsF a n) (w0 : 0 ≤ w) (w1 : w < 18446744073709551616) {k : Nat} (hk : 130 < k) : revenantref01_Field_Get.f k a n w = some (I (getB a.toNat n.toNat (B w))) := by
  have h' := h
  obtain ⟨h1, h2, h3, h4⟩ := h'
  unfold revenantref01_Field_Get.f
  rw [ris_yes h]
  simp only [bsome, if_true]
  have z := rget_l h w0 w1 n.toNat k (n - 1) (by omega) (by omega) (by omega)
  have hG := get_lt (a := a.toNat) (n := n.toNat) (by omega) (B w)
  rw [Nat.div_eq_of_lt hG] at z
  rw [w64 (by omega) (by omega)]
  exact z
theorem rget_no {a n w : Int} (h : ¬ IsF a n) (k : Nat) : revenantref01_Field_Get.f k a n w = some 0 := by
  unfold revenantref01_Field_Get.f
  rw [ris_no h]
  rfl
theorem rput_l {a n w x : Int} (h : IsF a n) (w0 : 0 ≤ w) (w1 : w < 18446744073709551616) (x0 : 0 ≤ x) (x1 : x < 18446744073709551616) (hx : Fits n.toNat (B x)) (d : Nat) : ∀ (k : Nat) (i : Int), i + 1 = d → d ≤ 64 → d + 65 < k →
    revenantref01_Field_Put.l0 k w x (((putB a.toNat n.toNat (B w) (B x)).toNat / 2 ^ d : Nat) : Int) i a n = some (I (putB a.toNat n.toNat (B w) (B x)), true) := by
  have h' := h
  obtain ⟨h1, h2, h3, h4⟩ := h'
  have hV := (putB a.toNat n.toNat (B w) (B x)).isLt
  induction d with
  | zero =>
    intro k i hi hd hk
    obtain ⟨k, rfl⟩ : ∃ m, k = m + 1 := ⟨k - 1, by omega⟩
    simp only [revenantref01_Field_Put.l0]
    rw [if_neg (by omega)]
    simp [I]
  | succ d ih =>
    intro k i hi hd hk
    obtain ⟨k, rfl⟩ : ∃ m, k = m + 1 := ⟨k - 1, by omega⟩
    simp only [revenantref01_Field_Put.l0]
    have hb := put_bit (a := a.toNat) (n := n.toNat) (by omega) (w := B w) hx d (by omega)
    unfold BitVec.getLsbD at hb
    have ew : (B w).toNat = w.toNat := by rw [toNat_B, Int.emod_eq_of_lt w0 w1]
    have ex : (B x).toNat = x.toNat := by rw [toNat_B, Int.emod_eq_of_lt x0 x1]
    rw [ew, ex] at hb
    have ei : i.toNat = d := by omega
    rw [if_pos (by omega), bit_f w0 w1 (by omega) (by omega) (by omega), w64 (x := a + n) (by omega) (by omega), ei]
    simp only [bsome]
    have nx := ih k (wrap64 (i - 1)) (by rw [w64 (by omega) (by omega)]; omega) (by omega) (by omega)
    by_cases c1 : i ≥ a
    · rw [if_pos c1]
      by_cases c2 : i < a + n
      · rw [if_pos c2, w64 (x := i - a) (by omega) (by omega), bit_f x0 x1 (by omega) (by omega) (by omega)]
        simp only [bsome]
        rw [if_neg (by omega), if_pos (by omega)] at hb
        have e2 : (i - a).toNat = d - a.toNat := by omega
        rw [e2, ← hb, gatherU _ _ hV]
        exact nx
      · rw [if_neg c2]
        rw [if_neg (by omega), if_neg (by omega)] at hb
        rw [← hb, gatherU _ _ hV]
        exact nx
    · rw [if_neg c1]
      rw [if_pos (by omega)] at hb
      rw [← hb, gatherU _ _ hV]
      exact nx
theorem rput_yes {a n w x : Int} (h : IsF a n) (w0 : 0 ≤ w) (w1 : w < 18446744073709551616) (x0 : 0 ≤ x) (x1 : x < 18446744073709551616) (hx : x ≤ I (mask n.toNat)) {k : Nat} (hk : 140 < k) : revenantref01_Field_Put.f k a n w x = some (I (putB a.toNat n.toNat (B w) (B x)), true) := by
  have h' := h
  obtain ⟨h1, h2, h3, h4⟩ := h'
  have hf : Fits n.toNat (B x) := by
    apply fits_of_le (by omega)
    have ex : (B x).toNat = x.toNat := by rw [toNat_B, Int.emod_eq_of_lt x0 x1]
    rw [ex]
    unfold I at hx
    omega
  obtain ⟨k, rfl⟩ : ∃ m, k = m + 1 := ⟨k - 1, by omega⟩
  unfold revenantref01_Field_Put.f
  rw [ris_yes h, rmax_yes h (by omega)]
  simp only [bsome, if_true]
  rw [decide_eq_false (by omega)]
  simp only [revenantref01_Field_Put.j0, Bool.false_eq_true, if_false]
  have z := rput_l h w0 w1 x0 x1 hf 64 k 63 (by omega) (by omega) (by omega)
  rw [gather_top] at z
  exact z
theorem rput_no {a n w x : Int} (h : ¬ (IsF a n ∧ x ≤ I (mask n.toNat))) {k : Nat} (hk : 140 < k) : revenantref01_Field_Put.f k a n w x = some (0, false) := by
  obtain ⟨k, rfl⟩ : ∃ m, k = m + 1 := ⟨k - 1, by omega⟩
  unfold revenantref01_Field_Put.f
  by_cases hf : IsF a n
  · rw [ris_yes hf, rmax_yes hf (by omega)]
    simp only [bsome, if_true]
    rw [decide_eq_true (by
      have : ¬ x ≤ I (mask n.toNat) := fun hx => h ⟨hf, hx⟩
      omega)]
    simp only [revenantref01_Field_Put.j0, if_true]
  · rw [ris_no hf]
    simp only [bsome, Bool.false_eq_true, if_false]
    simp only [revenantref01_Field_Put.j0, if_true]
theorem sgn_range {n g : Nat} (h1 : 1 ≤ n) (h2 : n ≤ 64) (hg : g < 2 ^ n) : -(2 ^ (n - 1) : Nat) ≤ sgn n g ∧ sgn n g < ((2 ^ (n - 1) : Nat) : Int) := by
  obtain ⟨p1, p2, p3⟩ := pow_split h1 h2
  have ec : ((2 : Int) ^ n) = ((2 ^ n : Nat) : Int) := by rw [Int.natCast_pow]; rfl
  unfold sgn
  split
  · rw [ec]; omega
  · omega
theorem sgn_bit {n g : Nat} (h1 : 1 ≤ n) (h2 : n ≤ 64) {i : Nat} (hi : i < n) : (sgn n g / ((2 ^ i : Nat) : Int)) % 2 = (((g.testBit i).toNat : Nat) : Int) := by
  have ec : ((2 : Int) ^ n) = ((2 ^ n : Nat) : Int) := by rw [Int.natCast_pow]; rfl
  rw [← testBit_of]
  unfold sgn
  have hpos := Nat.two_pow_pos i
  split
  · rw [ec]
    have e : (2 : Nat) ^ n = 2 ^ i * (2 * 2 ^ (n - i - 1)) := by
      rw [← Nat.pow_succ', ← Nat.pow_add]; congr 1; omega
    have e2 : (g : Int) - ((2 ^ n : Nat) : Int) = (g : Int) + ((2 ^ i : Nat) : Int) * (-(2 * (2 ^ (n - i - 1) : Nat))) := by
      rw [e]
      simp only [Int.natCast_mul]
      rw [Int.mul_neg]
      rfl
    rw [e2, Int.add_mul_ediv_left _ _ (by omega)]
    generalize 2 ^ (n - i - 1) = q
    have e3 : (g : Int) / ((2 ^ i : Nat) : Int) = ((g / 2 ^ i : Nat) : Int) := by rw [Int.natCast_ediv]
    rw [e3]
    omega
  · have e3 : (g : Int) / ((2 ^ i : Nat) : Int) = ((g / 2 ^ i : Nat) : Int) := by rw [Int.natCast_ediv]
    rw [e3]
    omega
theorem div_half (s : Int) (i : Nat) : s / ((2 ^ (i + 1) : Nat) : Int) = s / ((2 ^ i : Nat) : Int) / 2 := by
  rw [Nat.pow_succ, Int.natCast_mul, Int.ediv_ediv_of_nonneg (Int.natCast_nonneg _)]
  rfl
theorem rsigned_l {a n w : Int} (h : IsF a n) (w0 : 0 ≤ w) (w1 : w < 18446744073709551616) (d : Nat) : ∀ (k : Nat) (i : Int), i + 1 = d → d < n.toNat → d + 65 < k →
    revenantref01_Field_Signed.l0 k w (sgn n.toNat (getB a.toNat n.toNat (B w)).toNat / ((2 ^ d : Nat) : Int)) i a n = some (sgn n.toNat (getB a.toNat n.toNat (B w)).toNat) := by
  have h' := h
  obtain ⟨h1, h2, h3, h4⟩ := h'
  have hG := get_lt (a := a.toNat) (n := n.toNat) (by omega) (B w)
  have hr := sgn_range (n := n.toNat) (by omega) (by omega) hG
  have hp63 : 2 ^ (n.toNat - 1) ≤ 9223372036854775808 := by
    exact Nat.le_trans (Nat.pow_le_pow_right (by decide) (by omega : n.toNat - 1 ≤ 63)) (by decide)
  induction d with
  | zero =>
    intro k i hi hd hk
    obtain ⟨k, rfl⟩ : ∃ m, k = m + 1 := ⟨k - 1, by omega⟩
    simp only [revenantref01_Field_Signed.l0]
    rw [if_neg (by omega)]
    simp
  | succ d ih =>
    intro k i hi hd hk
    obtain ⟨k, rfl⟩ : ∃ m, k = m + 1 := ⟨k - 1, by omega⟩
    simp only [revenantref01_Field_Signed.l0]
    rw [if_pos (by omega), w64 (x := a + i) (by omega) (by omega), bit_f w0 w1 (by omega) (by omega) (by omega)]
    simp only [bsome]
    have hb := get_bit (a := a.toNat) (n := n.toNat) (by omega) (B w) d
    unfold BitVec.getLsbD at hb
    have hd2 : d < n.toNat := by omega
    have e3 : (B w).toNat = w.toNat := by rw [toNat_B, Int.emod_eq_of_lt w0 w1]
    have e2 : w.toNat.testBit (a + i).toNat = (getB a.toNat n.toNat (B w)).toNat.testBit d := by
      rw [hb, e3, decide_eq_true hd2, Bool.true_and]
      congr 1
      omega
    have nx := ih k (wrap64 (i - 1)) (by rw [w64 (by omega) (by omega)]; omega) (by omega) (by omega)
    have sb := sgn_bit (n := n.toNat) (g := (getB a.toNat n.toNat (B w)).toNat) (by omega) (by omega) hd2
    rw [e2, ← sb, div_half]
    generalize hs : sgn n.toNat (getB a.toNat n.toNat (B w)).toNat = s at *
    have hq : -9223372036854775808 ≤ s / ((2 ^ d : Nat) : Int) ∧ s / ((2 ^ d : Nat) : Int) < 9223372036854775808 := by
      have hpd : (1 : Int) ≤ ((2 ^ d : Nat) : Int) := by have := Nat.two_pow_pos d; omega
      constructor
      · apply Int.le_ediv_of_mul_le (by omega)
        have : (-9223372036854775808 : Int) * ((2 ^ d : Nat) : Int) ≤ -9223372036854775808 * 1 := Int.mul_le_mul_of_nonpos_left (by omega) (by omega)
        omega
      · apply Int.ediv_lt_of_lt_mul (by omega)
        have : (9223372036854775808 : Int) * 1 ≤ 9223372036854775808 * ((2 ^ d : Nat) : Int) := Int.mul_le_mul_of_nonneg_left (by omega) (by omega)
        omega
    have e4 : wrap64 (wrap64 (s / ((2 ^ d : Nat) : Int) / 2 * 2) + wrap64 (s / ((2 ^ d : Nat) : Int) % 2)) = s / ((2 ^ d : Nat) : Int) := by
      generalize s / ((2 ^ d : Nat) : Int) = q at *
      rw [w64 (x := q % 2) (by omega) (by omega), w64 (x := q / 2 * 2) (by omega) (by omega), w64 (by omega) (by omega)]
      omega
    rw [e4]
    exact nx
theorem rsigned_yes {a n w : Int} (h : IsF a n) (w0 : 0 ≤ w) (w1 : w < 18446744073709551616) {k : Nat} (hk : 140 < k) : revenantref01_Field_Signed.f k a n w = some (sgn n.toNat (getB a.toNat n.toNat (B w)).toNat) := by
  have h' := h
  obtain ⟨h1, h2, h3, h4⟩ := h'
  have hG := get_lt (a := a.toNat) (n := n.toNat) (by omega) (B w)
  have hr := sgn_range (n := n.toNat) (by omega) (by omega) hG
  obtain ⟨p1, p2, p3⟩ := pow_split (n := n.toNat) (by omega) (by omega)
  obtain ⟨k, rfl⟩ : ∃ m, k = m + 1 := ⟨k - 1, by omega⟩
  unfold revenantref01_Field_Signed.f
  rw [ris_yes h]
  simp only [bsome, if_true]
  rw [w64 (x := a + n) (by omega) (by omega), w64 (x := a + n - 1) (by omega) (by omega), bit_f w0 w1 (by omega) (by omega) (by omega)]
  simp only [bsome]
  have hb := get_bit (a := a.toNat) (n := n.toNat) (by omega) (B w) (n.toNat - 1)
  unfold BitVec.getLsbD at hb
  have hd2 : n.toNat - 1 < n.toNat := by omega
  have e3 : (B w).toNat = w.toNat := by rw [toNat_B, Int.emod_eq_of_lt w0 w1]
  have e2 : w.toNat.testBit (a + n - 1).toNat = (getB a.toNat n.toNat (B w)).toNat.testBit (n.toNat - 1) := by
    rw [hb, e3, decide_eq_true hd2, Bool.true_and]
    congr 1
    omega
  have sb := sgn_bit (n := n.toNat) (g := (getB a.toNat n.toNat (B w)).toNat) (by omega) (by omega) hd2
  have z := rsigned_l h w0 w1 (n.toNat - 1) k (n - 2) (by omega) (by omega) (by omega)
  rw [e2, ← sb]
  generalize hs : sgn n.toNat (getB a.toNat n.toNat (B w)).toNat = s at *
  have hpos := Nat.two_pow_pos (n.toNat - 1)
  have ew : wrap64 (n - 2) = n - 2 := w64 (by omega) (by omega)
  by_cases hneg : s < 0
  · have q : s / ((2 ^ (n.toNat - 1) : Nat) : Int) = -1 := by
      have l1 : -1 ≤ s / ((2 ^ (n.toNat - 1) : Nat) : Int) := Int.le_ediv_of_mul_le (by omega) (by omega)
      have l2 : s / ((2 ^ (n.toNat - 1) : Nat) : Int) < 0 := Int.ediv_neg_of_neg_of_pos hneg (by omega)
      omega
    rw [q] at z ⊢
    rw [if_pos (by decide)]
    simp only [revenantref01_Field_Signed.j0]
    rw [ew]
    exact z
  · have q : s / ((2 ^ (n.toNat - 1) : Nat) : Int) = 0 := Int.ediv_eq_zero_of_lt (by omega) (by omega)
    rw [q] at z ⊢
    rw [if_neg (by decide)]
    simp only [revenantref01_Field_Signed.j0]
    rw [ew]
    exact z
theorem rsigned_no {a n w : Int} (h : ¬ IsF a n) (k : Nat) : revenantref01_Field_Signed.f k a n w = some 0 := by
  unfold revenantref01_Field_Signed.f
  rw [ris_no h]
  rfl
end Go.Proofs.Ytmdncdepdnpjiaa.PFieldExact
namespace Go.Proofs.Ytmdncdepdnpjiaa.Pure
open Go Go.RowKit Go.Proofs.Ytmdncdepdnpjiaa.PFieldExact Go.Proofs.YtmdncdepdnpjiaaW.PrintWords Go.Proofs.YtmdncdepdnpjiaaW.PrintLast Go.Proofs.YtmdncdepdnpjiaaW.PrintMore Go.Proofs.Ytmdncdepdnpjiaa.U
theorem FieldExact (a n w x : Int) (hw : (Lit.int .u64 w).wf = true) (hx : (Lit.int .u64 x).wf = true) : revenantlaw01_FieldExact.f 200 a n w x = some true := by
  rw [wf_u64] at hw hx
  obtain ⟨w0, w1⟩ := hw
  obtain ⟨x0, x1⟩ := hx
  unfold revenantlaw01_FieldExact.f
  rw [awake_f]
  simp only [bsome, if_true]
  by_cases hf : IsF a n
  · rw [is_yes hf, ris_yes hf, max_yes hf, rmax_yes hf (by omega), get_yes hf w0 w1, rget_yes hf w0 w1 (by omega), signed_yes hf w0 w1, rsigned_yes hf w0 w1 (by omega)]
    by_cases hm : x ≤ I (mask n.toNat)
    · rw [put_yes hf hm, rput_yes hf w0 w1 x0 x1 hm (by omega)]
      simp
    · rw [put_great hf hm, rput_no (fun h => hm h.2) (by omega)]
      simp
  · rw [is_no hf, ris_no hf, max_no hf, rmax_no hf (by omega), get_no hf, rget_no hf, signed_no hf, rsigned_no hf, put_no hf, rput_no (fun h => hf h.1) (by omega)]
    simp
theorem RFieldExact (a n w x : Int) (_ : (Lit.int .i64 a).wf = true ∧ (Lit.int .i64 n).wf = true) (g : (Lit.int .u64 w).wf = true) (g2 : (Lit.int .u64 x).wf = true) :
    ∃ k, revenantlaw01_FieldExact.f k a n w x = some true := ⟨200, FieldExact _ _ _ _ g g2⟩
end Go.Proofs.Ytmdncdepdnpjiaa.Pure
