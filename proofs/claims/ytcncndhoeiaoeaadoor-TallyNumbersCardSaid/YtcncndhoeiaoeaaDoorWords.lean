/-
WORDS OF 64 BITS: numbers, words, and their bits.
-/
import Derived.Test.YtcncndhoeiaoeaaDoorWMore
import Derived.Laws.BitsLemmas
import Derived.RowKit
namespace Go.Proofs.YtcncndhoeiaoeaaDoor.U
open Go Go.RowKit
set_option linter.unusedVariables false

/-- The word of a number. -/
def B (x : Int) : BitVec 64 := BitVec.ofInt 64 x
/-- The number of a word. -/
def I (b : BitVec 64) : Int := (b.toNat : Int)

theorem I_nonneg (b : BitVec 64) : 0 ≤ I b := by unfold I; omega
theorem I_lt (b : BitVec 64) : I b < 18446744073709551616 := by
  unfold I
  have := b.isLt
  omega
theorem B_I (b : BitVec 64) : B (I b) = b := by
  unfold B I
  simp
theorem I_B (x : Int) : I (B x) = x % 18446744073709551616 := by
  unfold B I
  rw [BitVec.toNat_ofInt]
  have : (0 : Int) ≤ x % ((2 ^ 64 : Nat) : Int) := Int.emod_nonneg _ (by decide)
  rw [Int.toNat_of_nonneg this]
  rfl
theorem I_B_of {x : Int} (h0 : 0 ≤ x) (h1 : x < 18446744073709551616) : I (B x) = x := by rw [I_B]; omega
theorem I_inj {a b : BitVec 64} : I a = I b ↔ a = b := by
  unfold I
  constructor
  · intro h; exact BitVec.eq_of_toNat_eq (by omega)
  · rintro rfl; rfl
theorem wrapU (x : Int) : IntKind.u64.wrap x = I (B x) := by
  rw [I_B]
  simp [IntKind.wrap, IntKind.bits, IntKind.signed]
theorem wrapU_mod (x : Int) : IntKind.u64.wrap x = x % 18446744073709551616 := by
  simp [IntKind.wrap, IntKind.bits, IntKind.signed]
theorem B_add (x y : Int) : B (x + y) = B x + B y := by unfold B; exact BitVec.ofInt_add ..
theorem B_mul (x y : Int) : B (x * y) = B x * B y := by unfold B; exact BitVec.ofInt_mul ..
theorem B_wrapU (x : Int) : B (IntKind.u64.wrap x) = B x := by rw [wrapU, B_I]
theorem wrapU_toNat (b : BitVec 64) : IntKind.u64.wrap (b.toNat : Int) = I b := by
  rw [wrapU_mod]; unfold I
  have := b.isLt
  omega
theorem bitsU_and (x y : Int) : bits .and .u64 x y = I (B x &&& B y) := wrapU_toNat (B x &&& B y)
theorem bitsU_or (x y : Int) : bits .or .u64 x y = I (B x ||| B y) := wrapU_toNat (B x ||| B y)
theorem bitsU_xor (x y : Int) : bits .xor .u64 x y = I (B x ^^^ B y) := wrapU_toNat (B x ^^^ B y)
theorem bitsU_andNot (x y : Int) : bits .andNot .u64 x y = I (B x &&& ~~~ (B y)) := wrapU_toNat (B x &&& ~~~ (B y))
theorem toNat_B (x : Int) : (B x).toNat = (x % 18446744073709551616).toNat := by
  have := I_B x
  unfold I at this
  omega
theorem B_nat (n : Nat) : B (n : Int) = BitVec.ofNat 64 n := by unfold B; exact BitVec.ofInt_natCast ..
theorem B_pow (n : Nat) : B ((2 : Int) ^ n) = BitVec.ofNat 64 (2 ^ n) := by
  rw [← B_nat]; congr 1
theorem B_shl (x : Int) (n : Nat) : B (x * 2 ^ n) = B x <<< n := by
  rw [B_mul, B_pow]
  apply BitVec.eq_of_toNat_eq
  rw [BitVec.toNat_mul, BitVec.toNat_shiftLeft, Nat.shiftLeft_eq, BitVec.toNat_ofNat, Nat.mul_mod_mod]
theorem shl_min (b : BitVec 64) (n : Nat) : b <<< min n 64 = b <<< n := by
  by_cases h : n ≤ 64
  · rw [Nat.min_eq_left h]
  · rw [Nat.min_eq_right (by omega), BitVec.shiftLeft_eq_zero (by omega), BitVec.shiftLeft_eq_zero (by omega)]
theorem shr_min (b : BitVec 64) (n : Nat) : b >>> min n 64 = b >>> n := by
  by_cases h : n ≤ 64
  · rw [Nat.min_eq_left h]
  · rw [Nat.min_eq_right (by omega), BitVec.ushiftRight_eq_zero (by omega), BitVec.ushiftRight_eq_zero (by omega)]
theorem I_ushr (b : BitVec 64) (n : Nat) : I b / 2 ^ n = I (b >>> n) := by
  unfold I
  rw [BitVec.toNat_ushiftRight, Nat.shiftRight_eq_div_pow]
  push_cast
  rfl
/-- The lowest n bits. -/
def mask (n : Nat) : BitVec 64 := BitVec.allOnes 64 >>> (64 - n)
theorem mask_bit {n : Nat} (hn : n ≤ 64) (i : Nat) : (mask n).getLsbD i = decide (i < n) := by
  unfold mask
  rw [BitVec.getLsbD_ushiftRight, BitVec.getLsbD_allOnes]
  congr 1
  apply propext
  omega
theorem mask_toNat {n : Nat} (hn : n ≤ 64) : (mask n).toNat = 2 ^ n - 1 := by
  apply Nat.eq_of_testBit_eq
  intro i
  have := mask_bit hn i
  unfold BitVec.getLsbD at this
  rw [this, Nat.testBit_two_pow_sub_one]
/-- A field's number. -/
def getB (a n : Nat) (w : BitVec 64) : BitVec 64 := (w >>> a) &&& mask n
/-- Another number. -/
def putB (a n : Nat) (w x : BitVec 64) : BitVec 64 := (w &&& ~~~(mask n <<< a)) ||| (x <<< a)
def turnB (k : Nat) (w : BitVec 64) : BitVec 64 := (w <<< k) ||| (w >>> (64 - k))
theorem get_bit {a n : Nat} (hn : n ≤ 64) (w : BitVec 64) (i : Nat) : (getB a n w).getLsbD i = (decide (i < n) && w.getLsbD (a + i)) := by
  unfold getB
  rw [BitVec.getLsbD_and, BitVec.getLsbD_ushiftRight, mask_bit hn, Bool.and_comm]
/-- It has no bit beyond the n th. -/
def Fits (n : Nat) (x : BitVec 64) : Prop := ∀ i, n ≤ i → x.getLsbD i = false
theorem fits_of_le {n : Nat} {x : BitVec 64} (hn : n ≤ 64) (h : x.toNat ≤ (mask n).toNat) : Fits n x := by
  intro i hi
  rw [mask_toNat hn] at h
  unfold BitVec.getLsbD
  apply Nat.testBit_lt_two_pow
  have h1 : 2 ^ n ≤ 2 ^ i := Nat.pow_le_pow_right (by decide) hi
  have h2 : 0 < 2 ^ n := Nat.two_pow_pos n
  omega
theorem le_of_fits {n : Nat} {x : BitVec 64} (hn : n ≤ 64) (h : Fits n x) : x.toNat ≤ (mask n).toNat := by
  rw [mask_toNat hn]
  have := Nat.lt_pow_two_of_testBit x.toNat (n := n) (fun i hi => h i hi)
  omega
theorem fits_get {a n : Nat} (hn : n ≤ 64) (w : BitVec 64) : Fits n (getB a n w) := by
  intro i hi
  rw [get_bit hn]
  simp; omega
theorem fits_and {n : Nat} (hn : n ≤ 64) (x : BitVec 64) : Fits n (x &&& mask n) := by
  intro i hi
  rw [BitVec.getLsbD_and, mask_bit hn]
  simp; omega
theorem put_bit {a n : Nat} (ha : a + n ≤ 64) {w x : BitVec 64} (hx : Fits n x) (i : Nat) (hi : i < 64) :
    (putB a n w x).getLsbD i = if i < a then w.getLsbD i else if i < a + n then x.getLsbD (i - a) else w.getLsbD i := by
  unfold putB
  rw [BitVec.getLsbD_or, BitVec.getLsbD_and, BitVec.getLsbD_not, BitVec.getLsbD_shiftLeft, BitVec.getLsbD_shiftLeft, mask_bit (by omega)]
  by_cases h1 : i < a
  · simp [h1, hi]
  · by_cases h2 : i < a + n
    · have h3 : i - a < n := by omega
      simp [h1, h2, hi, h3]
    · have h3 : ¬ i - a < n := by omega
      have h4 := hx (i - a) (by omega)
      simp [h1, h2, hi, h3, h4]
theorem turn_bit {k : Nat} (hk : k < 64) (w : BitVec 64) (i : Nat) (hi : i < 64) : (turnB k w).getLsbD i = w.getLsbD ((i + 64 - k) % 64) := by
  unfold turnB
  rw [BitVec.getLsbD_or, BitVec.getLsbD_shiftLeft, BitVec.getLsbD_ushiftRight]
  by_cases h : i < k
  · have e : (i + 64 - k) % 64 = 64 - k + i := by omega
    rw [e]; simp [h]
  · have e : (i + 64 - k) % 64 = i - k := by omega
    have h0 : w.getLsbD (64 - k + i) = false := BitVec.getLsbD_of_ge _ _ (by omega)
    rw [e, h0]; simp [h, hi]
theorem eq_of_bits {x y : BitVec 64} (h : ∀ i, i < 64 → x.getLsbD i = y.getLsbD i) : x = y := BitVec.eq_of_getLsbD_eq fun i hi => h i hi
theorem get_put {a n : Nat} (ha : a + n ≤ 64) {w x : BitVec 64} (hx : Fits n x) : getB a n (putB a n w x) = x := by
  apply eq_of_bits
  intro i hi
  rw [get_bit (by omega)]
  by_cases h : i < n
  · rw [put_bit ha hx _ (by omega)]
    have h1 : ¬ a + i < a := by omega
    have h2 : a + i < a + n := by omega
    have h3 : a + i - a = i := by omega
    rw [if_neg h1, if_pos h2, h3]; simp [h]
  · simp [h, hx i (by omega)]
theorem put_get {a n : Nat} (ha : a + n ≤ 64) (w : BitVec 64) {v : BitVec 64} (hv : ∀ i, i < 64 → (i < a ∨ a + n ≤ i) → v.getLsbD i = w.getLsbD i) : putB a n v (getB a n w) = w := by
  apply eq_of_bits
  intro i hi
  rw [put_bit ha (fits_get (by omega) w) _ hi]
  by_cases h1 : i < a
  · rw [if_pos h1]; exact hv i hi (.inl h1)
  · rw [if_neg h1]
    by_cases h2 : i < a + n
    · rw [if_pos h2, get_bit (by omega)]
      have h3 : i - a < n := by omega
      have h4 : a + (i - a) = i := by omega
      simp [h3, h4]
    · rw [if_neg h2]; exact hv i hi (.inr (by omega))
theorem put_out {a n : Nat} (ha : a + n ≤ 64) {w x : BitVec 64} (hx : Fits n x) (i : Nat) (hi : i < 64) (h : i < a ∨ a + n ≤ i) : (putB a n w x).getLsbD i = w.getLsbD i := by
  rw [put_bit ha hx _ hi]
  rcases h with h | h
  · rw [if_pos h]
  · rw [if_neg (by omega), if_neg (by omega)]
theorem put_put {a n : Nat} (ha : a + n ≤ 64) {w x y : BitVec 64} (hx : Fits n x) (hy : Fits n y) : putB a n (putB a n w x) y = putB a n w y := by
  apply eq_of_bits
  intro i hi
  rw [put_bit ha hy _ hi, put_bit ha hy _ hi, put_bit ha hx _ hi]
  by_cases h1 : i < a
  · simp [h1]
  · by_cases h2 : i < a + n
    · simp [h1, h2]
    · simp [h1, h2]
/-- Two fields without a bit in common. -/
def Apart (a n b m : Nat) : Prop := a + n ≤ b ∨ b + m ≤ a
instance (a n b m : Nat) : Decidable (Apart a n b m) := by unfold Apart; exact inferInstance
theorem put_comm {a n b m : Nat} (ha : a + n ≤ 64) (hb : b + m ≤ 64) (hp : Apart a n b m) {w x y : BitVec 64} (hx : Fits n x) (hy : Fits m y) :
    putB b m (putB a n w x) y = putB a n (putB b m w y) x := by
  apply eq_of_bits
  intro i hi
  rw [put_bit hb hy _ hi, put_bit ha hx _ hi, put_bit ha hx _ hi, put_bit hb hy _ hi]
  unfold Apart at hp
  repeat' split
  all_goals first
    | rfl
    | omega
theorem get_put_apart {a n b m : Nat} (ha : a + n ≤ 64) (hb : b + m ≤ 64) (hp : Apart a n b m) {w x : BitVec 64} (hx : Fits n x) : getB b m (putB a n w x) = getB b m w := by
  apply eq_of_bits
  intro i hi
  rw [get_bit (by omega), get_bit (by omega)]
  by_cases h : i < m
  · rw [put_out ha hx _ (by omega) (by unfold Apart at hp; omega)]
  · simp [h]
theorem mask_shl_and {a n b m : Nat} (ha : a + n ≤ 64) (hb : b + m ≤ 64) (hn : 1 ≤ n) (hm : 1 ≤ m) : ((mask n <<< a) &&& (mask m <<< b) = 0#64) ↔ Apart a n b m := by
  constructor
  · intro h
    unfold Apart
    refine Classical.byContradiction fun hc => ?_
    have h1 : ((mask n <<< a) &&& (mask m <<< b)).getLsbD (max a b) = false := by rw [h]; simp
    rw [BitVec.getLsbD_and, BitVec.getLsbD_shiftLeft, BitVec.getLsbD_shiftLeft, mask_bit (by omega), mask_bit (by omega)] at h1
    have e1 : max a b < 64 := by omega
    have e2 : ¬ max a b < a := by omega
    have e3 : ¬ max a b < b := by omega
    have e4 : max a b - a < n := by omega
    have e5 : max a b - b < m := by omega
    simp [e1, e2, e3, e4, e5] at h1
  · intro h
    apply eq_of_bits
    intro i hi
    rw [BitVec.getLsbD_and, BitVec.getLsbD_shiftLeft, BitVec.getLsbD_shiftLeft, mask_bit (by omega), mask_bit (by omega)]
    unfold Apart at h
    simp
    omega
/-- Bits, gathered from above: v is all of them, from j on. -/
theorem gather_step (v j : Nat) : v / 2 ^ (j + 1) * 2 + (v.testBit j).toNat = v / 2 ^ j := by
  have h1 : (v.testBit j).toNat = v / 2 ^ j % 2 := by
    rw [Nat.testBit_eq_decide_div_mod_eq]
    have : v / 2 ^ j % 2 < 2 := Nat.mod_lt _ (by decide)
    by_cases h : v / 2 ^ j % 2 = 1
    · simp [h]
    · have h0 : v / 2 ^ j % 2 = 0 := by omega
      simp [h0]
  have h2 : v / 2 ^ (j + 1) = v / 2 ^ j / 2 := by rw [Nat.pow_succ, Nat.div_div_eq_div_mul]
  rw [h1, h2]; omega
theorem gather_top (b : BitVec 64) : b.toNat / 2 ^ 64 = 0 := Nat.div_eq_of_lt b.isLt
theorem testBit_of (w k : Nat) : w / 2 ^ k % 2 = (w.testBit k).toNat := by
  rw [Nat.testBit_eq_decide_div_mod_eq]
  have : w / 2 ^ k % 2 < 2 := Nat.mod_lt _ (by decide)
  by_cases h : w / 2 ^ k % 2 = 1
  · simp [h]
  · have h0 : w / 2 ^ k % 2 = 0 := by omega
    simp [h0]

open Go.Proofs.YtcncndhoeiaoeaaDoorW.PrintWords Go.Proofs.YtcncndhoeiaoeaaDoorW.PrintMore
/-- Not by 'rfl': so the kernel need not compare what is bound. -/
theorem bsome {α β : Type} (a : α) (f : α → Option β) : (some a).bind f = f a := by rw [Option.bind_some]
theorem wf_u64 {x : Int} : (Lit.int .u64 x).wf = true ↔ 0 ≤ x ∧ x < 18446744073709551616 := by
  simp [Lit.wf, IntKind.min, IntKind.max, IntKind.signed, IntKind.bits]; omega
theorem wf_i64 {x : Int} : (Lit.int .i64 x).wf = true ↔ -9223372036854775808 ≤ x ∧ x < 9223372036854775808 := by
  simp [Lit.wf, IntKind.min, IntKind.max, IntKind.signed, IntKind.bits]; omega
theorem w64 {x : Int} (h0 : -9223372036854775808 ≤ x) (h1 : x < 9223372036854775808) : wrap64 x = x := by unfold wrap64; omega
theorem tmod_pos {x m : Int} (h : 0 ≤ x) : Int.tmod x m = x % m := Int.tmod_eq_emod_of_nonneg h
theorem tmod_neg {x m : Int} (h : x < 0) : Int.tmod x m = -((-x) % m) := by
  have e : x = -(-x) := by omega
  conv => lhs; rw [e]
  rw [Int.neg_tmod, Int.tmod_eq_emod_of_nonneg (by omega)]
theorem shlU (x n : Int) : shl .u64 x n = I (B x <<< n.toNat) := by
  unfold shl
  rw [wrapU, B_shl]
  exact congrArg I (shl_min _ _)
theorem shrU {x : Int} (h0 : 0 ≤ x) (h1 : x < 18446744073709551616) (n : Int) : shr .u64 x n = I (B x >>> n.toNat) := by
  unfold shr
  have : x = I (B x) := (I_B_of h0 h1).symm
  rw [this, I_ushr, ← this]
  exact congrArg I (shr_min _ _)
end Go.Proofs.YtcncndhoeiaoeaaDoor.U
