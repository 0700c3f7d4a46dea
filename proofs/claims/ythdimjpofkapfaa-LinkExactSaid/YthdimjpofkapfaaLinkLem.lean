/-
WHAT THE LINK FUNCTIONS COME TO, IN NUMBERS: words, slots, versions, marks. No condition beyond each lemma's own.
-/
import Derived.Test.YthdimjpofkapfaaQLinkExactx7
import Derived.Test.YthdimjpofkapfaaQLinkExactx8
import Derived.Test.YthdimjpofkapfaaWords
namespace Go.Proofs.Ythdimjpofkapfaa.PLinkExact
open Go Go.RowKit Go.Proofs.YthdimjpofkapfaaW.PrintWords Go.Proofs.YthdimjpofkapfaaW.PrintLast Go.Proofs.YthdimjpofkapfaaW.PrintMore Go.Proofs.Ythdimjpofkapfaa.U
set_option linter.unusedVariables false

/-- A field that can be. -/
def IsF (a n : Int) : Prop := 0 ≤ a ∧ 1 ≤ n ∧ n ≤ 64 ∧ a ≤ 64 - n
instance (a n : Int) : Decidable (IsF a n) := by unfold IsF; exact inferInstance
theorem is_f (a n : Int) : field_Field_Is.f a n = some (decide (IsF a n)) := by
  unfold field_Field_Is.f IsF
  by_cases h1 : 0 ≤ a
  · by_cases h2 : 1 ≤ n
    · by_cases h3 : n ≤ 64
      · rw [if_pos h1, if_pos h2, if_pos h3, w64 (by omega) (by omega)]
        simp [h1, h2, h3]
      · rw [if_pos h1, if_pos h2, if_neg h3]
        simp [h3]
    · rw [if_pos h1, if_neg h2]
      simp [h2]
  · rw [if_neg h1]
    simp [h1]
theorem is_yes {a n : Int} (h : IsF a n) : field_Field_Is.f a n = some true := by rw [is_f, decide_eq_true h]
theorem is_no {a n : Int} (h : ¬ IsF a n) : field_Field_Is.f a n = some false := by rw [is_f, decide_eq_false h]
theorem wrapU_small {x : Int} (h0 : 0 ≤ x) (h1 : x < 18446744073709551616) : IntKind.u64.wrap x = x := by rw [wrapU_mod]; omega
theorem max_yes {a n : Int} (h : IsF a n) : field_Field_Max.f a n = some (I (mask n.toNat)) := by
  have h' := h
  obtain ⟨h1, h2, h3, h4⟩ := h
  unfold field_Field_Max.f
  rw [is_yes h']
  simp only [Option.bind_some, if_true]
  rw [w64 (by omega) (by omega), wrapU_small (by omega) (by omega), if_pos (by omega), shrU (by omega) (by omega)]
  congr 2
  unfold mask
  have e : B 18446744073709551615 = BitVec.allOnes 64 := by decide
  rw [e]
  congr 1
  omega
theorem max_no {a n : Int} (h : ¬ IsF a n) : field_Field_Max.f a n = some 0 := by
  unfold field_Field_Max.f
  rw [is_no h]
  rfl
theorem get_yes {a n w : Int} (h : IsF a n) (w0 : 0 ≤ w) (w1 : w < 18446744073709551616) : field_Field_Get.f a n w = some (I (getB a.toNat n.toNat (B w))) := by
  have h' := h
  obtain ⟨h1, h2, h3, h4⟩ := h
  unfold field_Field_Get.f
  rw [is_yes h', max_yes h']
  simp only [Option.bind_some, if_true]
  rw [wrapU_small (by omega) (by omega), if_pos h1, shrU w0 w1, bitsU_and, B_I, B_I]
  rfl
theorem get_no {a n w : Int} (h : ¬ IsF a n) : field_Field_Get.f a n w = some 0 := by
  unfold field_Field_Get.f
  rw [is_no h]
  rfl
theorem put_yes {a n w x : Int} (h : IsF a n) (hx : x ≤ I (mask n.toNat)) : field_Field_Put.f a n w x = some (I (putB a.toNat n.toNat (B w) (B x)), true) := by
  have h' := h
  obtain ⟨h1, h2, h3, h4⟩ := h
  unfold field_Field_Put.f
  rw [is_yes h', max_yes h']
  simp only [Option.bind_some, if_true]
  rw [if_neg (by omega), wrapU_small (by omega) (by omega), if_pos h1, shlU, shlU, bitsU_andNot, bitsU_or, B_I, B_I, B_I, B_I]
  rfl
theorem put_great {a n w x : Int} (h : IsF a n) (hx : ¬ x ≤ I (mask n.toNat)) : field_Field_Put.f a n w x = some (0, false) := by
  unfold field_Field_Put.f
  rw [is_yes h, max_yes h]
  simp only [Option.bind_some, if_true]
  rw [if_pos (by omega)]
theorem put_no {a n w x : Int} (h : ¬ IsF a n) : field_Field_Put.f a n w x = some (0, false) := by
  unfold field_Field_Put.f
  rw [is_no h]
  rfl
end Go.Proofs.Ythdimjpofkapfaa.PLinkExact
namespace Go.Proofs.Ythdimjpofkapfaa.PLinkExact
open Go Go.RowKit Go.Proofs.YthdimjpofkapfaaW.PrintWords Go.Proofs.YthdimjpofkapfaaW.PrintLast Go.Proofs.YthdimjpofkapfaaW.PrintMore Go.Proofs.Ythdimjpofkapfaa.U
set_option linter.unusedVariables false
/-- A field's bits. -/
def bitsOf (f : S114) : BitVec 64 := mask f.f1.toNat <<< f.f0.toNat
/-- Whether fields are apart, behind used bits. -/
def apartL : BitVec 64 → List S114 → Bool
  | _, [] => true
  | u, f :: fs => if IsF f.f0 f.f1 ∧ u &&& bitsOf f = 0#64 then apartL (u ||| bitsOf f) fs else false
theorem and63 {x : Int} (h0 : 0 ≤ x) (h1 : x < 64) : bits .and .i64 x 63 = x := by
  have h := bits_mask .i64 63 (by decide) (fun n h0 h1 => by rw [IntKind.wrap_i64]; omega) 6 (by decide) x h0 (by omega)
  have e : (2 : Int) ^ 6 - 1 = 63 := by decide
  rw [e] at h
  rw [h]
  have e2 : (2 : Int) ^ 6 = 64 := by decide
  rw [e2]
  omega
theorem drop_rd (xs : List S114) (i : Int) (h0 : 0 ≤ i) (h1 : i < xs.length) : xs.drop i.toNat = rd_T114 xs i :: xs.drop (i + 1).toNat := by
  have h : i.toNat < xs.length := by omega
  rw [List.drop_eq_getElem_cons h]
  congr 1
  · simp [rd_T114, h]
  · congr 1; omega
theorem apart_l (xs : List S114) (hx : xs.length ≤ 9223372036854775807) (d : Nat) : ∀ (k : Nat) (u : BitVec 64) (i : Int), 0 ≤ i → i ≤ xs.length → (xs.length : Int) - i = d → d < k →
    field_Apart.l0 k (I u) xs (xs.length : Int) i = some (apartL u (xs.drop i.toNat)) := by
  induction d with
  | zero =>
    intro k u i h0 h1 hd hk
    obtain ⟨k, rfl⟩ : ∃ m, k = m + 1 := ⟨k - 1, by omega⟩
    simp only [field_Apart.l0]
    rw [if_neg (by omega), List.drop_of_length_le (by omega)]
    rfl
  | succ d ih =>
    intro k u i h0 h1 hd hk
    obtain ⟨k, rfl⟩ : ∃ m, k = m + 1 := ⟨k - 1, by omega⟩
    simp only [field_Apart.l0]
    rw [if_pos (by omega), if_pos h0, if_pos (by omega), drop_rd xs i h0 (by omega)]
    generalize rd_T114 xs i = f
    have hw : 0 ≤ IntKind.u64.wrap (bits .and .i64 f.f0 63) := by rw [wrapU_mod]; omega
    unfold apartL
    by_cases hf : IsF f.f0 f.f1
    · obtain ⟨g1, g2, g3, g4⟩ := hf
      have hf : IsF f.f0 f.f1 := ⟨g1, g2, g3, g4⟩
      rw [max_yes hf, is_yes hf]
      simp only [Option.bind_some, if_true]
      rw [if_pos hw, and63 g1 (by omega), wrapU_small g1 (by omega), shlU, B_I, bitsU_and, bitsU_or, B_I, B_I]
      have e0 : (I (u &&& mask f.f1.toNat <<< f.f0.toNat) = 0) ↔ (u &&& bitsOf f = 0#64) := by
        rw [show (0 : Int) = I 0#64 from rfl, I_inj]
        rfl
      by_cases hz : u &&& bitsOf f = 0#64
      · rw [if_pos (e0.2 hz), if_pos ⟨hf, hz⟩, w64 (by omega) (by omega)]
        exact ih k _ (i + 1) (by omega) (by omega) (by omega) (by omega)
      · rw [if_neg (fun h => hz (e0.1 h)), if_neg (fun h => hz h.2)]
    · rw [max_no hf, is_no hf]
      simp only [Option.bind_some, Bool.false_eq_true, if_false]
      rw [if_pos hw, if_neg (fun h => hf h.1)]
theorem apart_f (xs : List S114) (hx : xs.length ≤ 9223372036854775807) {k : Nat} (hk : xs.length < k) : field_Apart.f k xs = some (apartL 0#64 xs) := by
  unfold field_Apart.f
  exact apart_l xs hx xs.length k 0#64 0 (by omega) (by omega) (by omega) hk
end Go.Proofs.Ythdimjpofkapfaa.PLinkExact
namespace Go.Proofs.Ythdimjpofkapfaa.U
theorem get_toNat {a n : Nat} (hn : n ≤ 64) (w : BitVec 64) : (getB a n w).toNat = w.toNat / 2 ^ a % 2 ^ n := by
  unfold getB
  rw [BitVec.toNat_and, BitVec.toNat_ushiftRight, Nat.shiftRight_eq_div_pow, mask_toNat hn, Nat.and_two_pow_sub_one_eq_mod]
theorem put_toNat {a n : Nat} (h : a + n ≤ 64) {w x : BitVec 64} (hw : w.toNat < 2 ^ a) (hx : Fits n x) : (putB a n w x).toNat = 2 ^ a * x.toNat + w.toNat := by
  apply Nat.eq_of_testBit_eq
  intro i
  rw [Nat.testBit_two_pow_mul_add _ hw]
  by_cases hi : i < 64
  · have hb := put_bit h (w := w) hx i hi
    unfold BitVec.getLsbD at hb
    rw [hb]
    by_cases h1 : i < a
    · rw [if_pos h1, if_pos h1]
    · rw [if_neg h1, if_neg h1]
      by_cases h2 : i < a + n
      · rw [if_pos h2]
      · rw [if_neg h2]
        have e1 : x.toNat.testBit (i - a) = false := hx (i - a) (by omega)
        rw [e1]
        apply Nat.testBit_lt_two_pow
        exact Nat.lt_of_lt_of_le hw (Nat.pow_le_pow_right (by decide) (by omega))
  · rw [if_neg (by omega)]
    have e1 : x.toNat.testBit (i - a) = false := hx (i - a) (by omega)
    rw [e1]
    apply Nat.testBit_lt_two_pow
    exact Nat.lt_of_lt_of_le (putB a n w x).isLt (Nat.pow_le_pow_right (by decide) (by omega))
end Go.Proofs.Ythdimjpofkapfaa.U
namespace Go.Proofs.Ythdimjpofkapfaa.PLinkExact
open Go Go.RowKit Go.Proofs.YthdimjpofkapfaaW.PrintWords Go.Proofs.YthdimjpofkapfaaW.PrintLast Go.Proofs.YthdimjpofkapfaaW.PrintMore Go.Proofs.Ythdimjpofkapfaa.U
set_option linter.unusedVariables false
/-- A link that can be, and its word. -/
def IsL (s v : Int) : Prop := 0 ≤ s ∧ s ≤ 8388607 ∧ 0 ≤ v ∧ v ≤ 1099511627775
instance (s v : Int) : Decidable (IsL s v) := by unfold IsL; exact inferInstance
def wordN (m : Bool) (s v : Int) : Int := (if m = true then 9223372036854775808 else 0) + s * 1099511627776 + v
def WordV (m : Bool) (s v : Int) : Int := if IsL s v then wordN m s v else 0
theorem isL_f (m : Bool) (s v : Int) : link_Link_Is.f m s v = some (decide (IsL s v)) := by
  unfold link_Link_Is.f
  by_cases h : IsL s v
  · obtain ⟨h1, h2, h3, h4⟩ := id h
    rw [decide_eq_true h, if_pos h1, if_pos h2, if_pos h3, decide_eq_true h4]
  · rw [decide_eq_false h]
    unfold IsL at h
    by_cases h1 : s ≥ 0
    · rw [if_pos h1]
      by_cases h2 : s ≤ 8388607
      · rw [if_pos h2]
        by_cases h3 : v ≥ 0
        · rw [if_pos h3, decide_eq_false (by omega)]
        · rw [if_neg h3]
      · rw [if_neg h2]
    · rw [if_neg h1]
def flds : List S114 := [⟨0, 40⟩, ⟨40, 23⟩, ⟨63, 1⟩]
theorem apart_flds : apartL 0#64 flds = true := by decide +kernel
theorem pack_step {k : Nat} {nums : List Int} {w : Int} {L : List S114} {i : Nat} {f : S114} {x : Int} (hi : i < L.length) (hn : i < nums.length) (hl : L.length ≤ 1000) (hf : rd_T114 L (i : Int) = f) (hx : rd nums (i : Int) = x) (h : IsF f.f0 f.f1) (hm : x ≤ I (mask f.f1.toNat)) :
    field_Pack.l0 (k + 1) nums w L (L.length : Int) (i : Int) = field_Pack.l0 k nums (I (putB f.f0.toNat f.f1.toNat (B w) (B x))) L (L.length : Int) ((i + 1 : Nat) : Int) := by
  simp only [field_Pack.l0]
  rw [if_pos (by omega), if_pos (by omega), if_pos (by omega), if_pos (by omega), hf, hx, put_yes h hm]
  simp only [bsome, if_true]
  rw [w64 (by omega) (by omega)]
  rfl
theorem fits_nat {n : Nat} (hn : n ≤ 64) {x : Int} (h0 : 0 ≤ x) (h1 : x < ((2 ^ n : Nat) : Int)) : Fits n (B x) ∧ x ≤ I (mask n) ∧ (B x).toNat = x.toNat := by
  have hp : 2 ^ n ≤ 18446744073709551616 := Nat.le_trans (Nat.pow_le_pow_right (by decide) hn) (by decide)
  have ex : (B x).toNat = x.toNat := by rw [toNat_B, Int.emod_eq_of_lt h0 (by omega)]
  refine ⟨fits_of_le hn ?_, ?_, ex⟩
  · rw [ex, mask_toNat hn]; omega
  · unfold I; rw [mask_toNat hn]; omega
theorem word_f {k : Nat} (hk : 10 ≤ k) (m : Bool) (s v : Int) : link_Link_Word.f k m s v = some (WordV m s v) := by
  obtain ⟨k, rfl⟩ : ∃ j, k = j + 5 := ⟨k - 5, by omega⟩
  unfold link_Link_Word.f WordV
  rw [isL_f]
  simp only [bsome]
  by_cases h : IsL s v
  · rw [decide_eq_true h, if_pos h, if_pos rfl]
    obtain ⟨h1, h2, h3, h4⟩ := h
    have key : ∀ b : Int, 0 ≤ b → b ≤ 1 → field_Pack.f (k + 5) flds [IntKind.u64.wrap v, IntKind.u64.wrap s, b] = some (b * 9223372036854775808 + s * 1099511627776 + v, true) := by
      intro b b0 b1
      have ev : IntKind.u64.wrap v = v := wrapU_small h3 (by omega)
      have es : IntKind.u64.wrap s = s := wrapU_small h1 (by omega)
      rw [ev, es]
      unfold field_Pack.f
      rw [apart_f flds (by decide) (by show 3 < k + 5; omega), apart_flds]
      simp only [bsome, if_true]
      have el : ((flds.length : Int) != (([v, s, b] : List Int).length : Int)) = false := rfl
      rw [el]
      simp only [field_Pack.j0, Bool.false_eq_true, if_false]
      have p40' : (2 : Nat) ^ 40 = 1099511627776 := by decide
      have p23' : (2 : Nat) ^ 23 = 8388608 := by decide
      have p1' : (2 : Nat) ^ 1 = 2 := by decide
      have p63' : (2 : Nat) ^ 63 = 9223372036854775808 := by decide
      obtain ⟨fv, mv, nv⟩ := fits_nat (n := 40) (by decide) h3 (by rw [p40']; omega)
      obtain ⟨fs, ms, ns⟩ := fits_nat (n := 23) (by decide) h1 (by rw [p23']; omega)
      obtain ⟨fb, mb, nb⟩ := fits_nat (n := 1) (by decide) b0 (by rw [p1']; omega)
      have s1 := pack_step (k := k + 3) (nums := [v, s, b]) (w := 0) (L := flds) (i := 0) (f := ⟨0, 40⟩) (x := v) (by decide) (by show 0 < 3; decide) (by decide) rfl rfl (by decide) mv
      have p1 : (putB 0 40 (B 0) (B v)).toNat = v.toNat := by
        have := put_toNat (a := 0) (n := 40) (by decide) (w := B 0) (x := B v) (by decide) fv
        rw [this, nv]
        have : (B 0).toNat = 0 := by decide
        rw [this]
        simp
      have s2 := pack_step (k := k + 2) (nums := [v, s, b]) (w := I (putB 0 40 (B 0) (B v))) (L := flds) (i := 1) (f := ⟨40, 23⟩) (x := s) (by decide) (by show 1 < 3; decide) (by decide) rfl rfl (by decide) ms
      rw [B_I] at s2
      have p2 : (putB 40 23 (putB 0 40 (B 0) (B v)) (B s)).toNat = 1099511627776 * s.toNat + v.toNat := by
        have := put_toNat (a := 40) (n := 23) (by decide) (w := putB 0 40 (B 0) (B v)) (x := B s) (by rw [p1, p40']; omega) fs
        rw [this, ns, p1]
      have s3 := pack_step (k := k + 1) (nums := [v, s, b]) (w := I (putB 40 23 (putB 0 40 (B 0) (B v)) (B s))) (L := flds) (i := 2) (f := ⟨63, 1⟩) (x := b) (by decide) (by show 2 < 3; decide) (by decide) rfl rfl (by decide) mb
      rw [B_I] at s3
      have p3 : (putB 63 1 (putB 40 23 (putB 0 40 (B 0) (B v)) (B s)) (B b)).toNat = 9223372036854775808 * b.toNat + (1099511627776 * s.toNat + v.toNat) := by
        have := put_toNat (a := 63) (n := 1) (by decide) (w := putB 40 23 (putB 0 40 (B 0) (B v)) (B s)) (x := B b) (by rw [p2, p63']; omega) fb
        rw [this, nb, p2]
      have s4 : field_Pack.l0 (k + 1) [v, s, b] (I (putB 63 1 (putB 40 23 (putB 0 40 (B 0) (B v)) (B s)) (B b))) flds (flds.length : Int) ((2 + 1 : Nat) : Int) = some (I (putB 63 1 (putB 40 23 (putB 0 40 (B 0) (B v)) (B s)) (B b)), true) := by
        simp only [field_Pack.l0]
        rw [if_neg (by decide)]
      refine (s1.trans (s2.trans (s3.trans s4))).trans ?_
      congr 2
      unfold I
      rw [p3]
      omega
    unfold link_fields.f
    simp only [bsome]
    cases m
    · simp only [Bool.false_eq_true, if_false]
      have := key 0 (by decide) (by decide)
      unfold flds at this
      rw [this]
      simp only [bsome, wordN, Bool.false_eq_true, if_false]
      congr 1 <;> omega
    · simp only [if_true]
      have := key 1 (by decide) (by decide)
      unfold flds at this
      rw [this]
      simp only [bsome, wordN, if_true]
      congr 1 <;> omega
  · rw [decide_eq_false h, if_neg h]
    rfl
theorem unpack_step {k : Nat} {w : Int} (w0 : 0 ≤ w) (w1 : w < 18446744073709551616) {acc : List Int} {L : List S114} {i : Nat} {f : S114} (hi : i < L.length) (hl : L.length ≤ 1000) (ha : acc.length ≤ 1000) (hf : rd_T114 L (i : Int) = f) (h : IsF f.f0 f.f1) :
    field_Unpack.l0 (k + 1) w acc L (L.length : Int) (i : Int) = field_Unpack.l0 k w (acc ++ [I (getB f.f0.toNat f.f1.toNat (B w))]) L (L.length : Int) ((i + 1 : Nat) : Int) := by
  simp only [field_Unpack.l0]
  rw [if_pos (by omega), if_pos (by omega), if_pos (by omega), hf, get_yes h w0 w1]
  simp only [bsome]
  rw [if_pos (by omega), w64 (by omega) (by omega)]
  rfl
theorem of_f {k : Nat} (hk : 10 ≤ k) {w : Int} (w0 : 0 ≤ w) (w1 : w < 18446744073709551616) : link_Of.f k w = some (decide (w ≥ 9223372036854775808), w / 1099511627776 % 8388608, w % 1099511627776) := by
  obtain ⟨k, rfl⟩ : ∃ j, k = j + 5 := ⟨k - 5, by omega⟩
  have ew : (B w).toNat = w.toNat := by rw [toNat_B, Int.emod_eq_of_lt w0 w1]
  have g1 : I (getB 0 40 (B w)) = w % 1099511627776 := by
    unfold I; rw [get_toNat (by decide), ew]
    have e1 : (2 : Nat) ^ 40 = 1099511627776 := by decide
    have e2 : (2 : Nat) ^ 0 = 1 := by decide
    rw [e1, e2]; omega
  have g2 : I (getB 40 23 (B w)) = w / 1099511627776 % 8388608 := by
    unfold I; rw [get_toNat (by decide), ew]
    have e1 : (2 : Nat) ^ 40 = 1099511627776 := by decide
    have e2 : (2 : Nat) ^ 23 = 8388608 := by decide
    rw [e1, e2]; omega
  have g3 : I (getB 63 1 (B w)) = w / 9223372036854775808 := by
    unfold I; rw [get_toNat (by decide), ew]
    have e1 : (2 : Nat) ^ 63 = 9223372036854775808 := by decide
    have e2 : (2 : Nat) ^ 1 = 2 := by decide
    rw [e1, e2]; omega
  have hu : field_Unpack.f (k + 5) flds w = some [w % 1099511627776, w / 1099511627776 % 8388608, w / 9223372036854775808] := by
    unfold field_Unpack.f
    have s1 := unpack_step (k := k + 4) w0 w1 (acc := []) (L := flds) (i := 0) (f := ⟨0, 40⟩) (by decide) (by decide) (by decide) rfl (by decide)
    have s2 := unpack_step (k := k + 3) w0 w1 (acc := [] ++ [I (getB 0 40 (B w))]) (L := flds) (i := 1) (f := ⟨40, 23⟩) (by decide) (by decide) (by show 1 ≤ 1000; decide) rfl (by decide)
    have s3 := unpack_step (k := k + 2) w0 w1 (acc := [] ++ [I (getB 0 40 (B w))] ++ [I (getB 40 23 (B w))]) (L := flds) (i := 2) (f := ⟨63, 1⟩) (by decide) (by decide) (by show 2 ≤ 1000; decide) rfl (by decide)
    have s4 : field_Unpack.l0 (k + 2) w ([] ++ [I (getB 0 40 (B w))] ++ [I (getB 40 23 (B w))] ++ [I (getB 63 1 (B w))]) flds (flds.length : Int) ((2 + 1 : Nat) : Int) = some ([] ++ [I (getB 0 40 (B w))] ++ [I (getB 40 23 (B w))] ++ [I (getB 63 1 (B w))]) := by
      simp only [field_Unpack.l0]
      rw [if_neg (by decide)]
    refine (s1.trans (s2.trans (s3.trans s4))).trans ?_
    rw [g1, g2, g3]
    rfl
  unfold link_Of.f link_fields.f
  simp only [bsome]
  unfold flds at hu
  rw [hu]
  simp only [bsome]
  rw [if_pos (by show (2 : Int) < 3; decide), if_pos (by show (1 : Int) < 3; decide), if_pos (by show (0 : Int) < 3; decide)]
  have r0 : rd [w % 1099511627776, w / 1099511627776 % 8388608, w / 9223372036854775808] 0 = w % 1099511627776 := rfl
  have r1 : rd [w % 1099511627776, w / 1099511627776 % 8388608, w / 9223372036854775808] 1 = w / 1099511627776 % 8388608 := rfl
  have r2 : rd [w % 1099511627776, w / 1099511627776 % 8388608, w / 9223372036854775808] 2 = w / 9223372036854775808 := rfl
  rw [r0, r1, r2, w64 (by omega) (by omega), w64 (by omega) (by omega)]
  congr 2
  rw [Bool.eq_iff_iff]
  simp
  omega
end Go.Proofs.Ythdimjpofkapfaa.PLinkExact
namespace Go.Proofs.Ythdimjpofkapfaa.PLinkExact
open Go Go.RowKit Go.Proofs.YthdimjpofkapfaaW.PrintWords Go.Proofs.YthdimjpofkapfaaW.PrintLast Go.Proofs.YthdimjpofkapfaaW.PrintMore Go.Proofs.Ythdimjpofkapfaa.U
set_option linter.unusedVariables false
theorem rof_f {w : Int} (w0 : 0 ≤ w) (w1 : w < 18446744073709551616) : revenantref02_Of.f w = some (decide (w ≥ 9223372036854775808), w / 1099511627776 % 8388608, w % 1099511627776) := by
  unfold revenantref02_Of.f
  have e1 : Int.tdiv w 1099511627776 = w / 1099511627776 := Int.tdiv_eq_ediv_of_nonneg w0
  rw [e1, wrapU_small (x := w / 1099511627776) (by omega) (by omega), tmod_pos (by omega), tmod_pos w0, w64 (by omega) (by omega), w64 (by omega) (by omega)]
theorem risL_f (m : Bool) (s v : Int) : revenantref02_Is.f m s v = some (decide (IsL s v)) := by
  unfold revenantref02_Is.f
  by_cases h : IsL s v
  · obtain ⟨h1, h2, h3, h4⟩ := id h
    rw [decide_eq_true h, if_pos h1, if_pos (by omega), if_pos h3, decide_eq_true (by omega)]
  · rw [decide_eq_false h]
    unfold IsL at h
    by_cases h1 : s ≥ 0
    · rw [if_pos h1]
      by_cases h2 : s < 8388608
      · rw [if_pos h2]
        by_cases h3 : v ≥ 0
        · rw [if_pos h3, decide_eq_false (by omega)]
        · rw [if_neg h3]
      · rw [if_neg h2]
    · rw [if_neg h1]
theorem rword_f (m : Bool) (s v : Int) : revenantref02_Word.f m s v = some (WordV m s v) := by
  unfold revenantref02_Word.f WordV
  rw [risL_f]
  simp only [bsome]
  by_cases h : IsL s v
  · rw [decide_eq_true h, if_pos h, if_pos rfl]
    obtain ⟨h1, h2, h3, h4⟩ := h
    have e : IntKind.u64.wrap (IntKind.u64.wrap (IntKind.u64.wrap s * 1099511627776) + IntKind.u64.wrap v) = s * 1099511627776 + v := by
      rw [wrapU_small h1 (by omega), wrapU_small h3 (by omega), wrapU_small (x := s * 1099511627776) (by omega) (by omega), wrapU_small (by omega) (by omega)]
    rw [e]
    unfold wordN
    cases m
    · simp
    · simp only [if_true]
      rw [wrapU_small (by omega) (by omega)]
      congr 1
      omega
  · rw [decide_eq_false h, if_neg h]
    rfl
theorem wordN_range {m : Bool} {s v : Int} (h : IsL s v) : 0 ≤ wordN m s v ∧ wordN m s v < 18446744073709551616 ∧ (wordN m s v ≥ 9223372036854775808 ↔ m = true) ∧ wordN m s v / 1099511627776 % 8388608 = s ∧ wordN m s v % 1099511627776 = v := by
  obtain ⟨h1, h2, h3, h4⟩ := h
  unfold wordN
  cases m
  · simp; omega
  · simp; omega
theorem wordV_range (m : Bool) (s v : Int) : 0 ≤ WordV m s v ∧ WordV m s v < 18446744073709551616 := by
  unfold WordV
  by_cases h : IsL s v
  · rw [if_pos h]
    have := wordN_range (m := m) h
    omega
  · rw [if_neg h]; omega
theorem slot_f {k : Nat} (hk : 10 ≤ k) {w : Int} (w0 : 0 ≤ w) (w1 : w < 18446744073709551616) : link_Slot.f k w = some (w / 1099511627776 % 8388608) := by
  unfold link_Slot.f
  rw [of_f hk w0 w1]
  rfl
theorem version_f {k : Nat} (hk : 10 ≤ k) {w : Int} (w0 : 0 ≤ w) (w1 : w < 18446744073709551616) : link_Version.f k w = some (w % 1099511627776) := by
  unfold link_Version.f
  rw [of_f hk w0 w1]
  rfl
theorem isMarked_f {w : Int} (w0 : 0 ≤ w) (w1 : w < 18446744073709551616) : link_IsMarked.f w = some (decide (w ≥ 9223372036854775808)) := by
  unfold link_IsMarked.f
  congr 1
  rw [Bool.eq_iff_iff]
  simp
  omega
theorem marked_f {k : Nat} (hk : 10 ≤ k) {w s v : Int} (w0 : 0 ≤ w) (w1 : w < 18446744073709551616) : link_Marked.f k w s v = some (if w ≥ 9223372036854775808 then w else WordV true s v) := by
  unfold link_Marked.f
  rw [isMarked_f w0 w1, word_f hk]
  simp only [bsome, decide_eq_true_eq]
  split <;> rfl
theorem to_f {k : Nat} (hk : 10 ≤ k) (s v : Int) : link_To.f k s v = some (WordV false s v) := by
  unfold link_To.f
  rw [word_f hk]
  rfl
theorem next_f {k : Nat} (hk : 10 ≤ k) {w s : Int} (w0 : 0 ≤ w) (w1 : w < 18446744073709551616) : link_Next.f k w s = some (if 0 ≤ s ∧ s ≤ 8388607 then (if w % 1099511627776 = 1099511627775 then (0, 7) else (wordN false s (w % 1099511627776 + 1), 0)) else (0, 3)) := by
  unfold link_Next.f
  rw [version_f hk w0 w1]
  simp only [bsome]
  rw [isL_f]
  simp only [bsome]
  by_cases h : 0 ≤ s ∧ s ≤ 8388607
  · rw [if_pos h, decide_eq_true (show IsL s (w % 1099511627776) from by unfold IsL; omega), if_pos rfl]
    by_cases h2 : w % 1099511627776 = 1099511627775
    · rw [if_pos h2, if_pos h2]
    · rw [if_neg h2, if_neg h2, w64 (by omega) (by omega), word_f hk]
      unfold WordV
      rw [if_pos (show IsL s (w % 1099511627776 + 1) from by unfold IsL; omega)]
      rfl
  · rw [if_neg h, decide_eq_false (show ¬ IsL s (w % 1099511627776) from by unfold IsL; omega)]
    rfl
theorem compare_f (a b : Int) : cmp_Compare_int.f a b = some (if a < b then -1 else if a > b then 1 else 0) := by
  unfold cmp_Compare_int.f cmp_isNaN_int.f
  simp only [bsome, bne_self_eq_false, Bool.false_eq_true, if_false]
  split
  · rfl
  · split <;> rfl
theorem newer_f {k : Nat} (hk : 10 ≤ k) {a b : Int} (a0 : 0 ≤ a) (a1 : a < 18446744073709551616) (b0 : 0 ≤ b) (b1 : b < 18446744073709551616) :
    link_Newer.f k a b = some (if a % 1099511627776 < b % 1099511627776 then -1 else if a % 1099511627776 > b % 1099511627776 then 1 else 0) := by
  unfold link_Newer.f
  rw [version_f hk a0 a1, version_f hk b0 b1]
  simp only [bsome]
  rw [compare_f]
  rfl
theorem awake_30 {k : Nat} (hk : 30 ≤ k) : revenantlaw02_awake.f k = some true := at_rounds revenantlaw02_awake.mono hk revenantlaw02_awake.one
end Go.Proofs.Ythdimjpofkapfaa.PLinkExact
