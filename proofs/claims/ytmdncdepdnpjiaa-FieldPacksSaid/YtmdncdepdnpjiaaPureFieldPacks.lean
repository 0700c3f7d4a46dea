/-
Of every row of fields and numbers: whether they are apart, the word, and of every word the numbers, are the document's. No condition beyond the row's own.
-/
import Derived.Test.YtmdncdepdnpjiaaPFieldPacksx5
import Derived.Test.YtmdncdepdnpjiaaExtApart
import Derived.Test.YtmdncdepdnpjiaaWords
namespace Go.Proofs.Ytmdncdepdnpjiaa.PFieldPacks
open Go Go.RowKit Go.Proofs.YtmdncdepdnpjiaaW.PrintWords Go.Proofs.YtmdncdepdnpjiaaW.PrintLast Go.Proofs.YtmdncdepdnpjiaaW.PrintMore Go.Proofs.Ytmdncdepdnpjiaa.U
set_option linter.unusedVariables false

/-- A field that can be. -/
def IsF (a n : Int) : Prop := 0 ≤ a ∧ 1 ≤ n ∧ n ≤ 64 ∧ a ≤ 64 - n
instance (a n : Int) : Decidable (IsF a n) := by unfold IsF; exact inferInstance
theorem is_f (a n : Int) : field_Field_Is.f a n = some (decide (IsF a n)) := by
  unfold field_Field_Is.f IsF
  by_cases h1 : 0 ≤ a
  · by_cases h2 : 1 ≤ n
    · by_cases h3 : n ≤ 64
      · rw [if_pos h1, if_pos h2, if_pos h3, w64 (by omega) (by omega)]
        simp [h1, h2, h3]
      · rw [if_pos h1, if_pos h2, if_neg h3]
        simp [h3]
    · rw [if_pos h1, if_neg h2]
      simp [h2]
  · rw [if_neg h1]
    simp [h1]
theorem is_yes {a n : Int} (h : IsF a n) : field_Field_Is.f a n = some true := by rw [is_f, decide_eq_true h]
theorem is_no {a n : Int} (h : ¬ IsF a n) : field_Field_Is.f a n = some false := by rw [is_f, decide_eq_false h]
theorem wrapU_small {x : Int} (h0 : 0 ≤ x) (h1 : x < 18446744073709551616) : IntKind.u64.wrap x = x := by rw [wrapU_mod]; omega
theorem max_yes {a n : Int} (h : IsF a n) : field_Field_Max.f a n = some (I (mask n.toNat)) := by
  have h' := h
  obtain ⟨h1, h2, h3, h4⟩ := h
  unfold field_Field_Max.f
  rw [is_yes h']
  simp only [Option.bind_some, if_true]
  rw [w64 (by omega) (by omega), wrapU_small (by omega) (by omega), if_pos (by omega), shrU (by omega) (by omega)]
  congr 2
  unfold mask
  have e : B 18446744073709551615 = BitVec.allOnes 64 := by decide
  rw [e]
  congr 1
  omega
theorem max_no {a n : Int} (h : ¬ IsF a n) : field_Field_Max.f a n = some 0 := by
  unfold field_Field_Max.f
  rw [is_no h]
  rfl
theorem get_yes {a n w : Int} (h : IsF a n) (w0 : 0 ≤ w) (w1 : w < 18446744073709551616) : field_Field_Get.f a n w = some (I (getB a.toNat n.toNat (B w))) := by
  have h' := h
  obtain ⟨h1, h2, h3, h4⟩ := h
  unfold field_Field_Get.f
  rw [is_yes h', max_yes h']
  simp only [Option.bind_some, if_true]
  rw [wrapU_small (by omega) (by omega), if_pos h1, shrU w0 w1, bitsU_and, B_I, B_I]
  rfl
theorem get_no {a n w : Int} (h : ¬ IsF a n) : field_Field_Get.f a n w = some 0 := by
  unfold field_Field_Get.f
  rw [is_no h]
  rfl
theorem put_yes {a n w x : Int} (h : IsF a n) (hx : x ≤ I (mask n.toNat)) : field_Field_Put.f a n w x = some (I (putB a.toNat n.toNat (B w) (B x)), true) := by
  have h' := h
  obtain ⟨h1, h2, h3, h4⟩ := h
  unfold field_Field_Put.f
  rw [is_yes h', max_yes h']
  simp only [Option.bind_some, if_true]
  rw [if_neg (by omega), wrapU_small (by omega) (by omega), if_pos h1, shlU, shlU, bitsU_andNot, bitsU_or, B_I, B_I, B_I, B_I]
  rfl
theorem put_great {a n w x : Int} (h : IsF a n) (hx : ¬ x ≤ I (mask n.toNat)) : field_Field_Put.f a n w x = some (0, false) := by
  unfold field_Field_Put.f
  rw [is_yes h, max_yes h]
  simp only [Option.bind_some, if_true]
  rw [if_pos (by omega)]
theorem put_no {a n w x : Int} (h : ¬ IsF a n) : field_Field_Put.f a n w x = some (0, false) := by
  unfold field_Field_Put.f
  rw [is_no h]
  rfl
theorem turn_f {w n : Int} (w0 : 0 ≤ w) (w1 : w < 18446744073709551616) : field_Turn.f w n = some (I (turnB (n % 64).toNat (B w))) := by
  have e : Int.tmod (IntKind.u64.wrap n) 64 = n % 64 := by
    rw [wrapU_mod, Int.tmod_eq_emod_of_nonneg (by omega)]
    omega
  unfold field_Turn.f
  rw [e, if_pos (by omega), wrapU_small (by omega) (by omega), if_pos (by omega), shlU, shrU w0 w1, bitsU_or, B_I, B_I]
  congr 2
  unfold turnB
  congr 2
  omega
theorem int_f {w : Int} (w0 : 0 ≤ w) (w1 : w < 18446744073709551616) : field_Int.f w = some (if w < 9223372036854775808 then (w, true) else (0, false)) := by
  unfold field_Int.f
  by_cases h : w < 9223372036854775808
  · rw [w64 (by omega) (by omega), if_neg (by omega), if_pos h]
  · rw [if_pos (by unfold wrap64; omega), if_neg h]
theorem awake_f : revenantlaw01_awake.f = some true := by decide +kernel
end Go.Proofs.Ytmdncdepdnpjiaa.PFieldPacks
namespace Go.Proofs.Ytmdncdepdnpjiaa.PFieldPacks
open Go Go.RowKit Go.Proofs.YtmdncdepdnpjiaaW.PrintWords Go.Proofs.YtmdncdepdnpjiaaW.PrintLast Go.Proofs.YtmdncdepdnpjiaaW.PrintMore Go.Proofs.Ytmdncdepdnpjiaa.U
set_option linter.unusedVariables false
/-- A field's bits. -/
def bitsOf (f : S23) : BitVec 64 := mask f.f1.toNat <<< f.f0.toNat
/-- Whether fields are apart, behind used bits. -/
def apartL : BitVec 64 → List S23 → Bool
  | _, [] => true
  | u, f :: fs => if IsF f.f0 f.f1 ∧ u &&& bitsOf f = 0#64 then apartL (u ||| bitsOf f) fs else false
theorem and63 {x : Int} (h0 : 0 ≤ x) (h1 : x < 64) : bits .and .i64 x 63 = x := by
  have h := bits_mask .i64 63 (by decide) (fun n h0 h1 => by rw [IntKind.wrap_i64]; omega) 6 (by decide) x h0 (by omega)
  have e : (2 : Int) ^ 6 - 1 = 63 := by decide
  rw [e] at h
  rw [h]
  have e2 : (2 : Int) ^ 6 = 64 := by decide
  rw [e2]
  omega
theorem drop_rd (xs : List S23) (i : Int) (h0 : 0 ≤ i) (h1 : i < xs.length) : xs.drop i.toNat = rd_T23 xs i :: xs.drop (i + 1).toNat := by
  have h : i.toNat < xs.length := by omega
  rw [List.drop_eq_getElem_cons h]
  congr 1
  · simp [rd_T23, h]
  · congr 1; omega
theorem apart_l (xs : List S23) (hx : xs.length ≤ 9223372036854775807) (d : Nat) : ∀ (k : Nat) (u : BitVec 64) (i : Int), 0 ≤ i → i ≤ xs.length → (xs.length : Int) - i = d → d < k →
    field_Apart.l0 k (I u) xs (xs.length : Int) i = some (apartL u (xs.drop i.toNat)) := by
  induction d with
  | zero =>
    intro k u i h0 h1 hd hk
    obtain ⟨k, rfl⟩ : ∃ m, k = m + 1 := ⟨k - 1, by omega⟩
    simp only [field_Apart.l0]
    rw [if_neg (by omega), List.drop_of_length_le (by omega)]
    rfl
  | succ d ih =>
    intro k u i h0 h1 hd hk
    obtain ⟨k, rfl⟩ : ∃ m, k = m + 1 := ⟨k - 1, by omega⟩
    simp only [field_Apart.l0]
    rw [if_pos (by omega), if_pos h0, if_pos (by omega), drop_rd xs i h0 (by omega)]
    generalize rd_T23 xs i = f
    have hw : 0 ≤ IntKind.u64.wrap (bits .and .i64 f.f0 63) := by rw [wrapU_mod]; omega
    unfold apartL
    by_cases hf : IsF f.f0 f.f1
    · obtain ⟨g1, g2, g3, g4⟩ := hf
      have hf : IsF f.f0 f.f1 := ⟨g1, g2, g3, g4⟩
      rw [max_yes hf, is_yes hf]
      simp only [Option.bind_some, if_true]
      rw [if_pos hw, and63 g1 (by omega), wrapU_small g1 (by omega), shlU, B_I, bitsU_and, bitsU_or, B_I, B_I]
      have e0 : (I (u &&& mask f.f1.toNat <<< f.f0.toNat) = 0) ↔ (u &&& bitsOf f = 0#64) := by
        rw [show (0 : Int) = I 0#64 from rfl, I_inj]
        rfl
      by_cases hz : u &&& bitsOf f = 0#64
      · rw [if_pos (e0.2 hz), if_pos ⟨hf, hz⟩, w64 (by omega) (by omega)]
        exact ih k _ (i + 1) (by omega) (by omega) (by omega) (by omega)
      · rw [if_neg (fun h => hz (e0.1 h)), if_neg (fun h => hz h.2)]
    · rw [max_no hf, is_no hf]
      simp only [Option.bind_some, Bool.false_eq_true, if_false]
      rw [if_pos hw, if_neg (fun h => hf h.1)]
theorem apart_f (xs : List S23) (hx : xs.length ≤ 9223372036854775807) {k : Nat} (hk : xs.length < k) : field_Apart.f k xs = some (apartL 0#64 xs) := by
  unfold field_Apart.f
  exact apart_l xs hx xs.length k 0#64 0 (by omega) (by omega) (by omega) hk
end Go.Proofs.Ytmdncdepdnpjiaa.PFieldPacks
namespace Go.Proofs.Ytmdncdepdnpjiaa.U
/-- A field's number, with its sign. -/
def sgn (n : Nat) (g : Nat) : Int := if 2 ^ (n - 1) ≤ g then (g : Int) - 2 ^ n else g
theorem get_lt {a n : Nat} (hn : n ≤ 64) (w : BitVec 64) : (getB a n w).toNat < 2 ^ n := by
  have h := le_of_fits hn (fits_get (a := a) hn w)
  rw [mask_toNat hn] at h
  have := Nat.two_pow_pos n
  omega
theorem pow_split {n : Nat} (h1 : 1 ≤ n) (h2 : n ≤ 64) : 2 ^ n * 2 ^ (64 - n) = 18446744073709551616 ∧ 2 ^ (n - 1) * 2 ^ (64 - n) = 9223372036854775808 ∧ 2 ^ n = 2 * 2 ^ (n - 1) := by
  refine ⟨?_, ?_, ?_⟩
  · rw [← Nat.pow_add, show n + (64 - n) = 64 by omega]
  · rw [← Nat.pow_add, show n - 1 + (64 - n) = 63 by omega]
  · obtain ⟨m, rfl⟩ : ∃ m, n = m + 1 := ⟨n - 1, by omega⟩
    rw [Nat.add_sub_cancel, Nat.pow_succ, Nat.mul_comm]
end Go.Proofs.Ytmdncdepdnpjiaa.U
namespace Go.Proofs.Ytmdncdepdnpjiaa.PFieldPacks
open Go Go.RowKit Go.Proofs.YtmdncdepdnpjiaaW.PrintWords Go.Proofs.YtmdncdepdnpjiaaW.PrintLast Go.Proofs.YtmdncdepdnpjiaaW.PrintMore Go.Proofs.Ytmdncdepdnpjiaa.U
set_option linter.unusedVariables false
theorem signed_yes {a n w : Int} (h : IsF a n) (w0 : 0 ≤ w) (w1 : w < 18446744073709551616) : field_Field_Signed.f a n w = some (sgn n.toNat (getB a.toNat n.toNat (B w)).toNat) := by
  have h' := h
  obtain ⟨h1, h2, h3, h4⟩ := h
  have hG := get_lt (a := a.toNat) (n := n.toNat) (by omega) (B w)
  unfold field_Field_Signed.f
  rw [is_yes h', get_yes h' w0 w1]
  simp only [Option.bind_some, if_true]
  rw [w64 (x := 64 - n) (by omega) (by omega), wrapU_small (by omega) (by omega), if_pos (by omega), shlU, B_I]
  have eu : (64 - n).toNat = 64 - n.toNat := by omega
  obtain ⟨p1, p2, p3⟩ := pow_split (n := n.toNat) (by omega) (by omega)
  rw [eu]
  generalize n.toNat = m at *
  generalize getB a.toNat m (B w) = g at *
  have e1 : I (g <<< (64 - m)) = ((g.toNat * 2 ^ (64 - m) : Nat) : Int) := by
    unfold I
    rw [BitVec.toNat_shiftLeft, Nat.shiftLeft_eq, Nat.mod_eq_of_lt]
    calc g.toNat * 2 ^ (64 - m) < 2 ^ m * 2 ^ (64 - m) := (Nat.mul_lt_mul_right (Nat.two_pow_pos _)).2 hG
      _ = 2 ^ 64 := by rw [p1]
  rw [e1]
  unfold shr
  have em : min (64 - n).toNat IntKind.i64.bits = 64 - m := by
    rw [eu]
    show min (64 - m) 64 = 64 - m
    omega
  rw [em]
  congr 1
  have hP : (0 : Int) < 2 ^ (64 - m) := by
    have := Nat.two_pow_pos (64 - m)
    have e : ((2 : Int) ^ (64 - m)) = ((2 ^ (64 - m) : Nat) : Int) := by rw [Int.natCast_pow]; rfl
    rw [e]
    omega
  unfold sgn
  have hc : ((g.toNat * 2 ^ (64 - m) : Nat) : Int) = (g.toNat : Int) * 2 ^ (64 - m) := by rw [Int.natCast_mul, Int.natCast_pow]; rfl
  have q1 : ((2 : Int) ^ m) * 2 ^ (64 - m) = 18446744073709551616 := by
    have e : ((2 : Int) ^ m) * 2 ^ (64 - m) = ((2 ^ m * 2 ^ (64 - m) : Nat) : Int) := by rw [Int.natCast_mul, Int.natCast_pow, Int.natCast_pow]; rfl
    rw [e, p1]
    rfl
  by_cases hs : 2 ^ (m - 1) ≤ g.toNat
  · rw [if_pos hs]
    have hge : 9223372036854775808 ≤ g.toNat * 2 ^ (64 - m) := by rw [← p2]; exact Nat.mul_le_mul_right _ hs
    have hlt : g.toNat * 2 ^ (64 - m) < 18446744073709551616 := by rw [← p1]; exact (Nat.mul_lt_mul_right (Nat.two_pow_pos _)).2 hG
    have e2 : wrap64 ((g.toNat * 2 ^ (64 - m) : Nat) : Int) = ((g.toNat : Int) - 2 ^ m) * 2 ^ (64 - m) := by
      rw [Int.sub_mul, q1, ← hc]
      unfold wrap64
      omega
    rw [e2, Int.mul_ediv_cancel _ (by omega)]
  · rw [if_neg hs]
    have hlt : g.toNat * 2 ^ (64 - m) < 9223372036854775808 := by rw [← p2]; exact (Nat.mul_lt_mul_right (Nat.two_pow_pos _)).2 (by omega)
    rw [w64 (by omega) (by omega), hc, Int.mul_ediv_cancel _ (by omega)]
theorem signed_no {a n w : Int} (h : ¬ IsF a n) : field_Field_Signed.f a n w = some 0 := by
  unfold field_Field_Signed.f
  rw [is_no h]
  rfl
end Go.Proofs.Ytmdncdepdnpjiaa.PFieldPacks
namespace Go.Proofs.Ytmdncdepdnpjiaa.PFieldPacks
open Go Go.RowKit Go.Proofs.YtmdncdepdnpjiaaW.PrintWords Go.Proofs.YtmdncdepdnpjiaaW.PrintLast Go.Proofs.YtmdncdepdnpjiaaW.PrintMore Go.Proofs.Ytmdncdepdnpjiaa.U
set_option linter.unusedVariables false
theorem bit_l (d : Nat) : ∀ (k : Nat) (w c i : Int), 0 ≤ w → w < 18446744073709551616 → 0 ≤ i → i ≤ c → c ≤ 64 → c - i = d → d < k →
    revenantref01_Bit.l0 k w c i = some (((w.toNat.testBit d).toNat : Nat) : Int) := by
  induction d with
  | zero =>
    intro k w c i h0 h1 h2 h3 h4 h5 h6
    obtain ⟨k, rfl⟩ : ∃ m, k = m + 1 := ⟨k - 1, by omega⟩
    simp only [revenantref01_Bit.l0]
    rw [if_neg (by omega)]
    congr 1
    rw [← testBit_of, Int.tmod_eq_emod_of_nonneg h0]
    simp
    omega
  | succ d ih =>
    intro k w c i h0 h1 h2 h3 h4 h5 h6
    obtain ⟨k, rfl⟩ : ∃ m, k = m + 1 := ⟨k - 1, by omega⟩
    simp only [revenantref01_Bit.l0]
    rw [if_pos (by omega), Int.tdiv_eq_ediv_of_nonneg h0, wrapU_mod, w64 (by omega) (by omega), Int.emod_eq_of_lt (by omega) (by omega)]
    rw [ih k (w / 2) c (i + 1) (by omega) (by omega) (by omega) (by omega) h4 (by omega) (by omega)]
    congr 3
    have : (w / 2).toNat = w.toNat / 2 := by omega
    rw [this, Nat.testBit_succ]
theorem bit_f {k : Nat} {w c : Int} (h0 : 0 ≤ w) (h1 : w < 18446744073709551616) (h2 : 0 ≤ c) (h3 : c ≤ 64) (h4 : 64 < k) : revenantref01_Bit.f k w c = some (((w.toNat.testBit c.toNat).toNat : Nat) : Int) := by
  unfold revenantref01_Bit.f
  exact bit_l c.toNat k w c 0 h0 h1 (by omega) h2 h3 (by omega) (by omega)
end Go.Proofs.Ytmdncdepdnpjiaa.PFieldPacks
namespace Go.Proofs.Ytmdncdepdnpjiaa.PFieldPacks
open Go Go.RowKit Go.Proofs.YtmdncdepdnpjiaaW.PrintWords Go.Proofs.YtmdncdepdnpjiaaW.PrintLast Go.Proofs.YtmdncdepdnpjiaaW.PrintMore Go.Proofs.Ytmdncdepdnpjiaa.U
set_option linter.unusedVariables false
theorem ris_f (a n : Int) : revenantref01_Field_Is.f a n = some (decide (IsF a n)) := by
  unfold revenantref01_Field_Is.f
  by_cases h : IsF a n
  · obtain ⟨h1, h2, h3, h4⟩ := id h
    rw [decide_eq_true h, if_pos (by omega), if_pos (by omega), if_pos (by omega), w64 (by omega) (by omega), decide_eq_true (by omega)]
  · rw [decide_eq_false h]
    unfold IsF at h
    by_cases h1 : a ≥ 0
    · rw [if_pos h1]
      by_cases h2 : a ≤ 63
      · rw [if_pos h2]
        by_cases h3 : n ≥ 1
        · rw [if_pos h3, w64 (by omega) (by omega), decide_eq_false (by omega)]
        · rw [if_neg h3]
      · rw [if_neg h2]
    · rw [if_neg h1]
theorem ris_yes {a n : Int} (h : IsF a n) : revenantref01_Field_Is.f a n = some true := by rw [ris_f, decide_eq_true h]
theorem ris_no {a n : Int} (h : ¬ IsF a n) : revenantref01_Field_Is.f a n = some false := by rw [ris_f, decide_eq_false h]
theorem rmax_l {a n : Int} (h : IsF a n) (d : Nat) : ∀ (k i : Nat), i ≤ n.toNat → n.toNat - i = d → d < k → revenantref01_Field_Max.l0 k ((2 ^ i - 1 : Nat) : Int) (i : Int) a n = some ((2 ^ n.toNat - 1 : Nat) : Int) := by
  have h' := h
  obtain ⟨h1, h2, h3, h4⟩ := h'
  induction d with
  | zero =>
    intro k i h0 hd hk
    obtain ⟨k, rfl⟩ : ∃ m, k = m + 1 := ⟨k - 1, by omega⟩
    simp only [revenantref01_Field_Max.l0]
    rw [if_neg (by omega), show i = n.toNat by omega]
  | succ d ih =>
    intro k i h0 hd hk
    obtain ⟨k, rfl⟩ : ∃ m, k = m + 1 := ⟨k - 1, by omega⟩
    simp only [revenantref01_Field_Max.l0]
    rw [if_pos (by omega), ris_yes h]
    simp only [bsome, if_true]
    have nx := ih k (i + 1) (by omega) (by omega) (by omega)
    have hp : 2 ^ i ≤ 9223372036854775808 := Nat.le_trans (Nat.pow_le_pow_right (by decide) (by omega : i ≤ 63)) (by decide)
    have hpos := Nat.two_pow_pos i
    have e : IntKind.u64.wrap (IntKind.u64.wrap (((2 ^ i - 1 : Nat) : Int) * 2) + 1) = ((2 ^ (i + 1) - 1 : Nat) : Int) := by
      rw [Nat.pow_succ, wrapU_mod, wrapU_mod]
      omega
    have e2 : wrap64 ((i : Int) + 1) = ((i + 1 : Nat) : Int) := by rw [w64 (by omega) (by omega)]; omega
    rw [e, e2]
    exact nx
theorem rmax_yes {a n : Int} (h : IsF a n) {k : Nat} (hk : 64 < k) : revenantref01_Field_Max.f k a n = some (I (mask n.toNat)) := by
  have h' := h
  obtain ⟨h1, h2, h3, h4⟩ := h'
  unfold revenantref01_Field_Max.f I
  rw [mask_toNat (by omega)]
  exact rmax_l h n.toNat k 0 (by omega) (by omega) (by omega)
theorem rmax_no {a n : Int} (h : ¬ IsF a n) {k : Nat} (hk : 0 < k) : revenantref01_Field_Max.f k a n = some 0 := by
  obtain ⟨k, rfl⟩ : ∃ m, k = m + 1 := ⟨k - 1, by omega⟩
  unfold revenantref01_Field_Max.f
  simp only [revenantref01_Field_Max.l0]
  rw [ris_no h]
  split
  · rfl
  · rfl
theorem gatherU (V j : Nat) (hV : V < 18446744073709551616) : IntKind.u64.wrap (IntKind.u64.wrap (((V / 2 ^ (j + 1) : Nat) : Int) * 2) + (((V.testBit j).toNat : Nat) : Int)) = ((V / 2 ^ j : Nat) : Int) := by
  have hg := gather_step V j
  have hlt : V / 2 ^ j ≤ V := Nat.div_le_self _ _
  rw [← hg] at hlt ⊢
  generalize V / 2 ^ (j + 1) = A at *
  generalize (V.testBit j).toNat = C at *
  rw [wrapU_mod, wrapU_mod]
  omega
theorem rget_l {a n w : Int} (h : IsF a n) (w0 : 0 ≤ w) (w1 : w < 18446744073709551616) (d : Nat) : ∀ (k : Nat) (i : Int), i + 1 = d → d ≤ n.toNat → d + 65 < k →
    revenantref01_Field_Get.l0 k w (((getB a.toNat n.toNat (B w)).toNat / 2 ^ d : Nat) : Int) i a n = some (I (getB a.toNat n.toNat (B w))) := by
  have h' := h
  obtain ⟨h1, h2, h3, h4⟩ := h'
  have hV := (getB a.toNat n.toNat (B w)).isLt
  induction d with
  | zero =>
    intro k i hi hd hk
    obtain ⟨k, rfl⟩ : ∃ m, k = m + 1 := ⟨k - 1, by omega⟩
    simp only [revenantref01_Field_Get.l0]
    rw [if_neg (by omega)]
    simp [I]
  | succ d ih =>
    intro k i hi hd hk
    obtain ⟨k, rfl⟩ : ∃ m, k = m + 1 := ⟨k - 1, by omega⟩
    simp only [revenantref01_Field_Get.l0]
    rw [if_pos (by omega), w64 (x := a + i) (by omega) (by omega), bit_f w0 w1 (by omega) (by omega) (by omega)]
    simp only [bsome]
    have hb := get_bit (a := a.toNat) (n := n.toNat) (by omega) (B w) d
    unfold BitVec.getLsbD at hb
    have hd2 : d < n.toNat := by omega
    have e3 : (B w).toNat = w.toNat := by rw [toNat_B, Int.emod_eq_of_lt w0 w1]
    have e2 : w.toNat.testBit (a + i).toNat = (getB a.toNat n.toNat (B w)).toNat.testBit d := by
      rw [hb, e3, decide_eq_true hd2, Bool.true_and]
      congr 1
      omega
    rw [e2, gatherU _ _ hV]
    exact ih k _ (by rw [w64 (by omega) (by omega)]; omega) (by omega) (by omega)
theorem rget_yes {a n w : Int} (h : IsF a n) (w0 : 0 ≤ w) (w1 : w < 18446744073709551616) {k : Nat} (hk : 130 < k) : revenantref01_Field_Get.f k a n w = some (I (getB a.toNat n.toNat (B w))) := by
  have h' := h
  obtain ⟨h1, h2, h3, h4⟩ := h'
  unfold revenantref01_Field_Get.f
  rw [ris_yes h]
  simp only [bsome, if_true]
  have z := rget_l h w0 w1 n.toNat k (n - 1) (by omega) (by omega) (by omega)
  have hG := get_lt (a := a.toNat) (n := n.toNat) (by omega) (B w)
  rw [Nat.div_eq_of_lt hG] at z
  rw [w64 (by omega) (by omega)]
  exact z
theorem rget_no {a n w : Int} (h : ¬ IsF a n) (k : Nat) : revenantref01_Field_Get.f k a n w = some 0 := by
  unfold revenantref01_Field_Get.f
  rw [ris_no h]
  rfl
theorem rput_l {a n w x : Int} (h : IsF a n) (w0 : 0 ≤ w) (w1 : w < 18446744073709551616) (x0 : 0 ≤ x) (x1 : x < 18446744073709551616) (hx : Fits n.toNat (B x)) (d : Nat) : ∀ (k : Nat) (i : Int), i + 1 = d → d ≤ 64 → d + 65 < k →
    revenantref01_Field_Put.l0 k w x (((putB a.toNat n.toNat (B w) (B x)).toNat / 2 ^ d : Nat) : Int) i a n = some (I (putB a.toNat n.toNat (B w) (B x)), true) := by
  have h' := h
  obtain ⟨h1, h2, h3, h4⟩ := h'
  have hV := (putB a.toNat n.toNat (B w) (B x)).isLt
  induction d with
  | zero =>
    intro k i hi hd hk
    obtain ⟨k, rfl⟩ : ∃ m, k = m + 1 := ⟨k - 1, by omega⟩
    simp only [revenantref01_Field_Put.l0]
    rw [if_neg (by omega)]
    simp [I]
  | succ d ih =>
    intro k i hi hd hk
    obtain ⟨k, rfl⟩ : ∃ m, k = m + 1 := ⟨k - 1, by omega⟩
    simp only [revenantref01_Field_Put.l0]
    have hb := put_bit (a := a.toNat) (n := n.toNat) (by omega) (w := B w) hx d (by omega)
    unfold BitVec.getLsbD at hb
    have ew : (B w).toNat = w.toNat := by rw [toNat_B, Int.emod_eq_of_lt w0 w1]
    have ex : (B x).toNat = x.toNat := by rw [toNat_B, Int.emod_eq_of_lt x0 x1]
    rw [ew, ex] at hb
    have ei : i.toNat = d := by omega
    rw [if_pos (by omega), bit_f w0 w1 (by omega) (by omega) (by omega), w64 (x := a + n) (by omega) (by omega), ei]
    simp only [bsome]
    have nx := ih k (wrap64 (i - 1)) (by rw [w64 (by omega) (by omega)]; omega) (by omega) (by omega)
    by_cases c1 : i ≥ a
    · rw [if_pos c1]
      by_cases c2 : i < a + n
      · rw [if_pos c2, w64 (x := i - a) (by omega) (by omega), bit_f x0 x1 (by omega) (by omega) (by omega)]
        simp only [bsome]
        rw [if_neg (by omega), if_pos (by omega)] at hb
        have e2 : (i - a).toNat = d - a.toNat := by omega
        rw [e2, ← hb, gatherU _ _ hV]
        exact nx
      · rw [if_neg c2]
        rw [if_neg (by omega), if_neg (by omega)] at hb
        rw [← hb, gatherU _ _ hV]
        exact nx
    · rw [if_neg c1]
      rw [if_pos (by omega)] at hb
      rw [← hb, gatherU _ _ hV]
      exact nx
theorem rput_yes {a n w x : Int} (h : IsF a n) (w0 : 0 ≤ w) (w1 : w < 18446744073709551616) (x0 : 0 ≤ x) (x1 : x < 18446744073709551616) (hx : x ≤ I (mask n.toNat)) {k : Nat} (hk : 140 < k) : revenantref01_Field_Put.f k a n w x = some (I (putB a.toNat n.toNat (B w) (B x)), true) := by
  have h' := h
  obtain ⟨h1, h2, h3, h4⟩ := h'
  have hf : Fits n.toNat (B x) := by
    apply fits_of_le (by omega)
    have ex : (B x).toNat = x.toNat := by rw [toNat_B, Int.emod_eq_of_lt x0 x1]
    rw [ex]
    unfold I at hx
    omega
  obtain ⟨k, rfl⟩ : ∃ m, k = m + 1 := ⟨k - 1, by omega⟩
  unfold revenantref01_Field_Put.f
  rw [ris_yes h, rmax_yes h (by omega)]
  simp only [bsome, if_true]
  rw [decide_eq_false (by omega)]
  simp only [revenantref01_Field_Put.j0, Bool.false_eq_true, if_false]
  have z := rput_l h w0 w1 x0 x1 hf 64 k 63 (by omega) (by omega) (by omega)
  rw [gather_top] at z
  exact z
theorem rput_no {a n w x : Int} (h : ¬ (IsF a n ∧ x ≤ I (mask n.toNat))) {k : Nat} (hk : 140 < k) : revenantref01_Field_Put.f k a n w x = some (0, false) := by
  obtain ⟨k, rfl⟩ : ∃ m, k = m + 1 := ⟨k - 1, by omega⟩
  unfold revenantref01_Field_Put.f
  by_cases hf : IsF a n
  · rw [ris_yes hf, rmax_yes hf (by omega)]
    simp only [bsome, if_true]
    rw [decide_eq_true (by
      have : ¬ x ≤ I (mask n.toNat) := fun hx => h ⟨hf, hx⟩
      omega)]
    simp only [revenantref01_Field_Put.j0, if_true]
  · rw [ris_no hf]
    simp only [bsome, Bool.false_eq_true, if_false]
    simp only [revenantref01_Field_Put.j0, if_true]
end Go.Proofs.Ytmdncdepdnpjiaa.PFieldPacks
namespace Go.Proofs.Ytmdncdepdnpjiaa.PFieldPacks
open Go Go.RowKit Go.Proofs.YtmdncdepdnpjiaaW.PrintWords Go.Proofs.YtmdncdepdnpjiaaW.PrintLast Go.Proofs.YtmdncdepdnpjiaaW.PrintMore Go.Proofs.Ytmdncdepdnpjiaa.U
/-- A field in the document's form. -/
def toR (f : S23) : S26 := ⟨f.f0, f.f1⟩
theorem apartR_map : ∀ (l : List S23) (u : BitVec 64), apartR u (l.map toR) = apartL u l
  | [], _ => rfl
  | f :: fs, u => by
    rw [List.map_cons]
    unfold apartR apartL
    have e1 : IsR (toR f) ↔ IsF f.f0 f.f1 := Iff.rfl
    have e2 : bitsR (toR f) = bitsOf f := rfl
    rw [e2]
    by_cases h : IsF f.f0 f.f1 ∧ u &&& bitsOf f = 0#64
    · rw [if_pos h, if_pos ⟨e1.2 h.1, h.2⟩]
      exact apartR_map fs _
    · rw [if_neg h, if_neg (fun q => h ⟨e1.1 q.1, q.2⟩)]
theorem rd26_map (l : List S23) (i : Nat) (h : i < l.length) : rd_T26 (l.map toR) (i : Int) = toR (rd_T23 l (i : Int)) := by
  simp [rd_T26, rd_T23, h]
/-- A field's number, of any field. -/
def numV (f : S23) (w : Int) : Int := if IsF f.f0 f.f1 then I (getB f.f0.toNat f.f1.toNat (B w)) else 0
theorem get_any (f : S23) {w : Int} (w0 : 0 ≤ w) (w1 : w < 18446744073709551616) : field_Field_Get.f f.f0 f.f1 w = some (numV f w) := by
  unfold numV
  by_cases h : IsF f.f0 f.f1
  · rw [if_pos h, get_yes h w0 w1]
  · rw [if_neg h, get_no h]
theorem rget_any (f : S23) {w : Int} (w0 : 0 ≤ w) (w1 : w < 18446744073709551616) {k : Nat} (hk : 130 < k) : revenantref01_Field_Get.f k f.f0 f.f1 w = some (numV f w) := by
  unfold numV
  by_cases h : IsF f.f0 f.f1
  · rw [if_pos h, rget_yes h w0 w1 hk]
  · rw [if_neg h, rget_no h]
/-- Another number, of any field. -/
def putV (f : S23) (w x : Int) : Int × Bool := if IsF f.f0 f.f1 ∧ x ≤ I (mask f.f1.toNat) then (I (putB f.f0.toNat f.f1.toNat (B w) (B x)), true) else (0, false)
theorem put_any (f : S23) (w x : Int) : field_Field_Put.f f.f0 f.f1 w x = some (putV f w x) := by
  unfold putV
  by_cases h : IsF f.f0 f.f1
  · by_cases hx : x ≤ I (mask f.f1.toNat)
    · rw [if_pos ⟨h, hx⟩, put_yes h hx]
    · rw [if_neg (fun q => hx q.2), put_great h hx]
  · rw [if_neg (fun q => h q.1), put_no h]
theorem rput_any (f : S23) {w x : Int} (w0 : 0 ≤ w) (w1 : w < 18446744073709551616) (x0 : 0 ≤ x) (x1 : x < 18446744073709551616) {k : Nat} (hk : 140 < k) : revenantref01_Field_Put.f k f.f0 f.f1 w x = some (putV f w x) := by
  unfold putV
  by_cases h : IsF f.f0 f.f1 ∧ x ≤ I (mask f.f1.toNat)
  · rw [if_pos h, rput_yes h.1 w0 w1 x0 x1 h.2 hk]
  · rw [if_neg h, rput_no h hk]
theorem putV_range (f : S23) (w x : Int) : 0 ≤ (putV f w x).1 ∧ (putV f w x).1 < 18446744073709551616 := by
  unfold putV
  split
  · exact ⟨I_nonneg _, I_lt _⟩
  · exact ⟨by decide, by decide⟩
/-- Numbers as a word, from place i on. -/
def packV (l : List S23) (nums : List Int) : Nat → Nat → Int → Int × Bool
  | 0, _, w => (w, true)
  | d + 1, i, w => if (putV (rd_T23 l (i : Int)) w (rd nums (i : Int))).2 = true then packV l nums d (i + 1) (putV (rd_T23 l (i : Int)) w (rd nums (i : Int))).1 else (0, false)
theorem pack_l0 (l : List S23) (nums : List Int) (hl : l.length ≤ 70) (he : nums.length = l.length) (d : Nat) : ∀ (k i : Nat) (w : Int), i ≤ l.length → l.length - i = d → d < k →
    field_Pack.l0 k nums w l (l.length : Int) (i : Int) = some (packV l nums d i w) := by
  induction d with
  | zero =>
    intro k i w h0 hd hk
    obtain ⟨k, rfl⟩ : ∃ m, k = m + 1 := ⟨k - 1, by omega⟩
    simp only [field_Pack.l0, packV]
    rw [if_neg (by omega)]
  | succ d ih =>
    intro k i w h0 hd hk
    obtain ⟨k, rfl⟩ : ∃ m, k = m + 1 := ⟨k - 1, by omega⟩
    have nx := ih k (i + 1) (putV (rd_T23 l (i : Int)) w (rd nums (i : Int))).1 (by omega) (by omega) (by omega)
    simp only [field_Pack.l0, packV]
    rw [if_pos (by omega), if_pos (by omega), if_pos (by omega), if_pos (by omega), put_any, w64 (x := (i : Int) + 1) (by omega) (by omega), show (i : Int) + 1 = ((i + 1 : Nat) : Int) by omega]
    simp only [bsome]
    rw [nx]
    split <;> rfl
theorem rpack_l0 (l : List S23) (nums : List Int) (hl : l.length ≤ 70) (he : nums.length = l.length) (hn : ∀ x ∈ nums, (Lit.int .u64 x).wf = true) (d : Nat) : ∀ (k i : Nat) (w : Int), 0 ≤ w → w < 18446744073709551616 → i ≤ l.length → l.length - i = d → d + 150 < k →
    revenantref01_Pack.l0 k (l.map toR) nums w (i : Int) = some (packV l nums d i w) := by
  induction d with
  | zero =>
    intro k i w w0 w1 h0 hd hk
    obtain ⟨k, rfl⟩ : ∃ m, k = m + 1 := ⟨k - 1, by omega⟩
    simp only [revenantref01_Pack.l0, packV, List.length_map]
    rw [if_neg (by omega)]
  | succ d ih =>
    intro k i w w0 w1 h0 hd hk
    obtain ⟨k, rfl⟩ : ∃ m, k = m + 1 := ⟨k - 1, by omega⟩
    have hr := putV_range (rd_T23 l (i : Int)) w (rd nums (i : Int))
    have nx := ih k (i + 1) (putV (rd_T23 l (i : Int)) w (rd nums (i : Int))).1 hr.1 hr.2 (by omega) (by omega) (by omega)
    have hi : i < nums.length := by omega
    have hm : rd nums (i : Int) ∈ nums := by simp [rd, hi]
    have hx := wf_u64.1 (hn _ hm)
    simp only [revenantref01_Pack.l0, packV, List.length_map]
    rw [if_pos (by omega), if_pos (by omega), if_pos (by omega), rd26_map l i (by omega), w64 (x := (i : Int) + 1) (by omega) (by omega), show (i : Int) + 1 = ((i + 1 : Nat) : Int) by omega]
    have hp := rput_any (rd_T23 l (i : Int)) w0 w1 hx.1 hx.2 (k := k) (by omega)
    have e : revenantref01_Field_Put.f k (toR (rd_T23 l (i : Int))).f0 (toR (rd_T23 l (i : Int))).f1 w (rd nums (i : Int)) = some (putV (rd_T23 l (i : Int)) w (rd nums (i : Int))) := hp
    rw [e]
    simp only [bsome]
    rw [nx]
    split <;> rfl
theorem packs_same (l : List S23) (nums : List Int) (hl : l.length ≤ 70) (hn : ∀ x ∈ nums, (Lit.int .u64 x).wf = true) {k : Nat} (hk : 300 < k) : ∃ p, field_Pack.f k l nums = some p ∧ revenantref01_Pack.f k (l.map toR) nums = some p := by
  obtain ⟨k, rfl⟩ : ∃ m, k = m + 1 := ⟨k - 1, by omega⟩
  unfold field_Pack.f revenantref01_Pack.f revenantref01_Apart.f
  rw [apart_f l (by omega) (by omega), apartR_map]
  simp only [bsome, List.length_map]
  cases ha : apartL 0#64 l
  · simp only [Bool.false_eq_true, if_false, field_Pack.j0, revenantref01_Pack.j0, if_true]
    exact ⟨_, rfl, rfl⟩
  · simp only [if_true, field_Pack.j0, revenantref01_Pack.j0]
    by_cases he : nums.length = l.length
    · rw [he, bne_self_eq_false]
      simp only [Bool.false_eq_true, if_false]
      exact ⟨_, pack_l0 l nums hl he l.length k 0 0 (by omega) (by omega) (by omega), rpack_l0 l nums hl he hn l.length k 0 0 (by decide) (by decide) (by omega) (by omega) (by omega)⟩
    · have e : ((l.length : Int) != (nums.length : Int)) = true := by simp; omega
      rw [e]
      simp only [if_true]
      exact ⟨_, rfl, rfl⟩
def numsV (w : Int) (l : List S23) : List Int := l.map fun f => numV f w
theorem unpack_any {w : Int} (w0 : 0 ≤ w) (w1 : w < 18446744073709551616) (l : List S23) (hl : l.length ≤ 70) (d : Nat) : ∀ (k i : Nat), i ≤ l.length → l.length - i = d → d < k →
    field_Unpack.l0 k w (numsV w (l.take i)) l (l.length : Int) (i : Int) = some (numsV w l) := by
  induction d with
  | zero =>
    intro k i h0 hd hk
    obtain ⟨k, rfl⟩ : ∃ m, k = m + 1 := ⟨k - 1, by omega⟩
    simp only [field_Unpack.l0]
    rw [if_neg (by omega), List.take_of_length_le (by omega)]
  | succ d ih =>
    intro k i h0 hd hk
    obtain ⟨k, rfl⟩ : ∃ m, k = m + 1 := ⟨k - 1, by omega⟩
    simp only [field_Unpack.l0]
    have hi : i < l.length := by omega
    have er : rd_T23 l (i : Int) = l[i] := by simp [rd_T23, hi]
    have nx := ih k (i + 1) (by omega) (by omega) (by omega)
    rw [if_pos (by omega), if_pos (by omega), if_pos (by omega), er, get_any _ w0 w1]
    simp only [bsome]
    have hlen : (numsV w (l.take i)).length ≤ 70 := by unfold numsV; rw [List.length_map, List.length_take]; omega
    have e1 : numsV w (l.take i) ++ [numV l[i] w] = numsV w (l.take (i + 1)) := by
      unfold numsV
      rw [List.take_succ_eq_append_getElem hi, List.map_append]
      rfl
    have e2 : wrap64 ((i : Int) + 1) = ((i + 1 : Nat) : Int) := by rw [w64 (by omega) (by omega)]; omega
    rw [if_pos (by omega), e1, e2]
    exact nx
theorem law_l1 {w : Int} (w0 : 0 ≤ w) (w1 : w < 18446744073709551616) (l : List S23) (hl : l.length ≤ 70) (d : Nat) : ∀ (k i : Nat), i ≤ l.length → l.length - i = d → d + 140 < k →
    revenantlaw01_FieldPacks.l1 k w (l.map toR) (numsV w l) (i : Int) = some true := by
  have hlen : (numsV w l).length = l.length := by unfold numsV; rw [List.length_map]
  induction d with
  | zero =>
    intro k i h0 hd hk
    obtain ⟨k, rfl⟩ : ∃ m, k = m + 1 := ⟨k - 1, by omega⟩
    simp only [revenantlaw01_FieldPacks.l1]
    rw [if_neg (by omega)]
  | succ d ih =>
    intro k i h0 hd hk
    obtain ⟨k, rfl⟩ : ∃ m, k = m + 1 := ⟨k - 1, by omega⟩
    have nx := ih k (i + 1) (by omega) (by omega) (by omega)
    have hi : i < l.length := by omega
    simp only [revenantlaw01_FieldPacks.l1, List.length_map]
    rw [if_pos (by omega), if_pos (by omega), if_pos (by omega), rd26_map l i hi, w64 (x := (i : Int) + 1) (by omega) (by omega), show (i : Int) + 1 = ((i + 1 : Nat) : Int) by omega]
    have e : revenantref01_Field_Get.f k (toR (rd_T23 l (i : Int))).f0 (toR (rd_T23 l (i : Int))).f1 w = some (numV (rd_T23 l (i : Int)) w) := rget_any _ w0 w1 (by omega)
    rw [e]
    simp only [bsome]
    have er : rd (numsV w l) (i : Int) = numV (rd_T23 l (i : Int)) w := by simp [rd, rd_T23, numsV, hi]
    rw [if_pos er]
    exact nx
theorem law_l0 {w : Int} (w0 : 0 ≤ w) (w1 : w < 18446744073709551616) (l : List S23) (hl : l.length ≤ 70) (nums : List Int) (hn : ∀ x ∈ nums, (Lit.int .u64 x).wf = true) (d : Nat) : ∀ (k i : Nat), i ≤ l.length → l.length - i = d → d + 400 < k →
    revenantlaw01_FieldPacks.l0 k l nums w ((l.take i).map toR) (i : Int) = some true := by
  induction d with
  | zero =>
    intro k i h0 hd hk
    obtain ⟨k, rfl⟩ : ∃ m, k = m + 2 := ⟨k - 2, by omega⟩
    simp only [revenantlaw01_FieldPacks.l0]
    rw [if_neg (by omega), List.take_of_length_le (by omega)]
    obtain ⟨p, hp1, hp2⟩ := packs_same l nums hl hn (k := k + 1) (by omega)
    rw [hp1, hp2, apart_f l (by omega) (by omega)]
    unfold revenantref01_Apart.f
    rw [apartR_map]
    simp only [bsome, bne_self_eq_false, Bool.false_eq_true, if_false, if_true]
    simp only [revenantlaw01_FieldPacks.j2, Bool.false_eq_true, if_false]
    have hu : field_Unpack.f k l w = some (numsV w l) := unpack_any w0 w1 l hl l.length k 0 (by omega) (by omega) (by omega)
    rw [hu]
    simp only [bsome]
    have hlen : (numsV w l).length = l.length := by unfold numsV; rw [List.length_map]
    rw [hlen, if_pos rfl]
    exact law_l1 w0 w1 l hl l.length k 0 (by omega) (by omega) (by omega)
  | succ d ih =>
    intro k i h0 hd hk
    obtain ⟨k, rfl⟩ : ∃ m, k = m + 1 := ⟨k - 1, by omega⟩
    have nx := ih k (i + 1) (by omega) (by omega) (by omega)
    have hi : i < l.length := by omega
    have hlen : ((l.take i).map toR).length ≤ 70 := by rw [List.length_map, List.length_take]; omega
    have e1 : (l.take i).map toR ++ [(⟨(rd_T23 l (i : Int)).f0, (rd_T23 l (i : Int)).f1⟩ : S26)] = (l.take (i + 1)).map toR := by
      rw [List.take_succ_eq_append_getElem hi, List.map_append]
      simp [rd_T23, hi, toR]
    simp only [revenantlaw01_FieldPacks.l0]
    rw [if_pos (by omega), if_pos (by omega), if_pos (by omega), e1, w64 (x := (i : Int) + 1) (by omega) (by omega), show (i : Int) + 1 = ((i + 1 : Nat) : Int) by omega]
    exact nx
theorem packs (l : List S23) (nums : List Int) (w : Int) (hw : (Lit.int .u64 w).wf = true) (hn : ∀ x ∈ nums, (Lit.int .u64 x).wf = true) : revenantlaw01_FieldPacks.f 600 l nums w = some true := by
  rw [wf_u64] at hw
  unfold revenantlaw01_FieldPacks.f
  rw [awake_f]
  simp only [bsome, if_true]
  by_cases hl : (l.length : Int) > 70
  · rw [if_pos hl]
    simp only [revenantlaw01_FieldPacks.j0, if_true]
  · rw [if_neg hl]
    by_cases h2 : (nums.length : Int) > 70
    · rw [decide_eq_true h2]
      simp only [revenantlaw01_FieldPacks.j0, if_true]
    · rw [decide_eq_false h2]
      simp only [revenantlaw01_FieldPacks.j0, Bool.false_eq_true, if_false]
      exact law_l0 hw.1 hw.2 l (by omega) nums hn l.length 599 0 (by omega) (by omega) (by omega)
end Go.Proofs.Ytmdncdepdnpjiaa.PFieldPacks
namespace Go.Proofs.Ytmdncdepdnpjiaa.Pure
open Go Go.RowKit Go.Proofs.Ytmdncdepdnpjiaa.PFieldPacks
theorem RFieldPacks (l : List S23) (nums : List Int) (w : Int) (_ : l.length ≤ maxLen ∧ l.length * 16 ≤ 140737488351232 ∧ ∀ y ∈ l, (Lit.int .i64 y.f0).wf = true ∧ (Lit.int .i64 y.f1).wf = true) (g : nums.length ≤ maxLen ∧ nums.length * 8 ≤ 140737488351232 ∧ ∀ y ∈ nums, (Lit.int .u64 y).wf = true) (h : (Lit.int .u64 w).wf = true) :
    ∃ k, revenantlaw01_FieldPacks.f k l nums w = some true := ⟨600, packs l nums w h g.2.2⟩
end Go.Proofs.Ytmdncdepdnpjiaa.Pure
