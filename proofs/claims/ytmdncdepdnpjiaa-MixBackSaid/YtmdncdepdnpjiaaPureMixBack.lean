/-
Of every two words: unlike keys are mixed to unlike words, each word is some key's, and a number times what inverts it is 1. No condition beyond the row's own.
-/
import Derived.Test.YtmdncdepdnpjiaaPMixBackx2
import Derived.Test.YtmdncdepdnpjiaaWords
namespace Go.Proofs.Ytmdncdepdnpjiaa.PMixBack
open Go Go.RowKit Go.Proofs.YtmdncdepdnpjiaaW.PrintWords Go.Proofs.YtmdncdepdnpjiaaW.PrintLast Go.Proofs.YtmdncdepdnpjiaaW.PrintMore Go.Proofs.Ytmdncdepdnpjiaa.U
set_option linter.unusedVariables false
/-- The error of a structure. -/
def CheckV (a b c d e : Int) : Int :=
  if a < 1 ∨ 3 < a then 8
  else if b < 1 ∨ 8388607 < b ∨ e < 2 ∨ 1099511627775 < e ∨ (a = 2 ∧ (c < 1 ∨ 64 < c)) ∨ (a ≠ 2 ∧ c ≠ 0) ∨ (a = 3 ∧ (d < 1 ∨ 16 < d)) ∨ (a ≠ 3 ∧ d ≠ 1) then 3 else 0
theorem within_f (a b c : Int) : conf_within.f a b c = some (decide (b ≤ a ∧ a ≤ c)) := by
  unfold conf_within.f
  by_cases h : a ≥ b
  · rw [if_pos h]; simp [h]
  · rw [if_neg h]; simp; omega
theorem check_f {k : Nat} (hk : 1 ≤ k) (a b c d e : Int) : conf_Check.f k a b c d e = some (CheckV a b c d e) := by
  obtain ⟨k, rfl⟩ : ∃ m, k = m + 1 := ⟨k - 1, by omega⟩
  unfold conf_Check.f conf_sizes.f
  simp only [within_f]
  by_cases h1 : a = 1
  · subst h1
    simp only [if_true, Option.bind_some, conf_Check.j0, within_f, CheckV]
    grind
  · by_cases h2 : a = 2
    · subst h2
      simp only [if_true, Option.bind_some, conf_Check.j0, within_f, CheckV]
      grind
    · by_cases h3 : a = 3
      · subst h3
        simp only [if_true, Option.bind_some, conf_Check.j0, within_f, CheckV]
        grind
      · simp only [h1, h2, h3, if_false, Option.bind_some, Bool.false_eq_true, CheckV]
        rw [if_pos (by omega)]
theorem check_zero {a b c d e : Int} (h : CheckV a b c d e = 0) : (a = 1 ∨ a = 2 ∨ a = 3) ∧ 1 ≤ b ∧ b ≤ 8388607 ∧ 2 ≤ e ∧ e ≤ 1099511627775 ∧ (a = 2 → 1 ≤ c ∧ c ≤ 64) ∧ (a ≠ 2 → c = 0) ∧ (a = 3 → 1 ≤ d ∧ d ≤ 16) ∧ (a ≠ 3 → d = 1) := by
  unfold CheckV at h
  split at h
  · omega
  · split at h
    · omega
    · omega
theorem check_cases (a b c d e : Int) : CheckV a b c d e = 0 ∨ CheckV a b c d e = 3 ∨ CheckV a b c d e = 8 := by
  unfold CheckV
  split
  · omega
  · split <;> omega
end Go.Proofs.Ytmdncdepdnpjiaa.PMixBack
namespace Go.Proofs.Ytmdncdepdnpjiaa.U
/-- By itself, shifted down. -/
def turnD (w : BitVec 64) : BitVec 64 := w ^^^ (w >>> 33)
def c1 : BitVec 64 := B 18397679294719823053
def c2 : BitVec 64 := B 14181476777654086739
def mixB (w : BitVec 64) : BitVec 64 := turnD (turnD (turnD w * c1) * c2)
theorem c1_eq : B 18397679294719823053 = c1 := rfl
theorem c2_eq : B 14181476777654086739 = c2 := rfl
theorem turnD_turnD (w : BitVec 64) : turnD (turnD w) = w := by
  apply eq_of_bits
  intro i hi
  unfold turnD
  simp only [BitVec.getLsbD_xor, BitVec.getLsbD_ushiftRight]
  have h : w.getLsbD (33 + (33 + i)) = false := BitVec.getLsbD_of_ge _ _ (by omega)
  rw [h]
  cases w.getLsbD i <;> cases w.getLsbD (33 + i) <;> rfl
/-- The hash's number. -/
def buck (n : Nat) (w : BitVec 64) : Nat := (mixB w).toNat / 4294967296 * n / 4294967296
theorem buck_lt {n : Nat} (hn : 1 ≤ n) (w : BitVec 64) : buck n w < n := by
  unfold buck
  have h := (mixB w).isLt
  have h1 : (mixB w).toNat / 4294967296 < 4294967296 := by omega
  have h2 : (mixB w).toNat / 4294967296 * n < 4294967296 * n := (Nat.mul_lt_mul_right (by omega)).2 h1
  exact Nat.div_lt_of_lt_mul h2
end Go.Proofs.Ytmdncdepdnpjiaa.U
namespace Go.Proofs.Ytmdncdepdnpjiaa.PMixBack
open Go Go.RowKit Go.Proofs.YtmdncdepdnpjiaaW.PrintWords Go.Proofs.YtmdncdepdnpjiaaW.PrintLast Go.Proofs.YtmdncdepdnpjiaaW.PrintMore Go.Proofs.Ytmdncdepdnpjiaa.U
set_option linter.unusedVariables false
theorem B_div33 (b : BitVec 64) : B (I b / 8589934592) = b >>> 33 := by
  have h := I_ushr b 33
  have e : (2 : Int) ^ 33 = 8589934592 := by decide
  rw [e] at h
  rw [h, B_I]
theorem mturn_f (b : BitVec 64) : mix_turn.f (I b) = some (I (turnD b)) := by
  unfold mix_turn.f turnD
  rw [bitsU_xor, B_I, B_div33]
theorem mul_f (b : BitVec 64) (c : Int) : mix_turn.f (IntKind.u64.wrap (I b * c)) = some (I (turnD (b * B c))) := by
  rw [wrapU, B_mul, B_I, mturn_f]
theorem mix_fB (b : BitVec 64) : mix_Mix.f (I b) = some (I (mixB b)) := by
  unfold mix_Mix.f mixB
  rw [mturn_f]
  simp only [bsome]
  rw [mul_f (turnD b) 18397679294719823053, c1_eq]
  simp only [bsome]
  rw [mul_f, c2_eq]
  simp only [bsome]
theorem mix_f {x : Int} (h0 : 0 ≤ x) (h1 : x < 18446744073709551616) : mix_Mix.f x = some (I (mixB (B x))) := by
  have h := mix_fB (B x)
  rw [I_B_of h0 h1] at h
  exact h
theorem bucket_num {n : Int} (n0 : 1 ≤ n) (n1 : n ≤ 64) (b : BitVec 64) : wrap64 ((IntKind.u64.wrap ((I (mixB b) / 4294967296) * (IntKind.u64.wrap n))) / 4294967296) = (buck n.toNat b : Int) := by
  have h0 := I_nonneg (mixB b)
  have h1 := I_lt (mixB b)
  have hb := buck_lt (n := n.toNat) (by omega) b
  have hn : IntKind.u64.wrap n = n := by rw [wrapU_mod]; omega
  rw [hn]
  have hd : I (mixB b) / 4294967296 < 4294967296 := by omega
  have hd0 : 0 ≤ I (mixB b) / 4294967296 := by omega
  have hm : 0 ≤ (I (mixB b) / 4294967296) * n ∧ (I (mixB b) / 4294967296) * n < 18446744073709551616 := by
    constructor
    · exact Int.mul_nonneg hd0 (by omega)
    · have : (I (mixB b) / 4294967296) * n ≤ 4294967296 * n := Int.mul_le_mul_of_nonneg_right (by omega) (by omega)
      omega
  rw [wrapU_mod, Int.emod_eq_of_lt hm.1 hm.2]
  have e : (buck n.toNat b : Int) = I (mixB b) / 4294967296 * n / 4294967296 := by
    unfold buck I
    have en : (n.toNat : Int) = n := Int.toNat_of_nonneg (by omega)
    rw [Int.natCast_ediv, Int.natCast_mul, Int.natCast_ediv, en]
    rfl
  rw [← e, w64 (by omega) (by omega)]
theorem bucket_yes {k : Nat} (hk : 1 ≤ k) {b c d e x : Int} (hc : CheckV 2 b c d e = 0) (h0 : 0 ≤ x) (h1 : x < 18446744073709551616) : mix_Bucket.f k 2 b c d e x = some (buck c.toNat (B x) : Int) := by
  have z := check_zero hc
  unfold mix_Bucket.f
  rw [check_f hk, hc, mix_f h0 h1]
  simp only [bsome, if_true]
  rw [bucket_num (by omega) (by omega)]
theorem bucket_no {k : Nat} (hk : 1 ≤ k) {a b c d e x : Int} (hc : ¬ (CheckV a b c d e = 0 ∧ a = 2)) : mix_Bucket.f k a b c d e x = some 0 := by
  unfold mix_Bucket.f
  rw [check_f hk]
  simp only [bsome]
  by_cases h : CheckV a b c d e = 0
  · rw [if_pos h, if_neg (fun h2 => hc ⟨h, h2⟩)]
  · rw [if_neg h]
end Go.Proofs.Ytmdncdepdnpjiaa.PMixBack
namespace Go.Proofs.Ytmdncdepdnpjiaa.U
def stepB (a x : BitVec 64) : BitVec 64 := x * (2#64 - a * x)
def invB (a : BitVec 64) : BitVec 64 := stepB a (stepB a (stepB a (stepB a (stepB a (stepB a a)))))
theorem step_err (a x : BitVec 64) : 1#64 - a * stepB a x = (1#64 - a * x) * (1#64 - a * x) := by
  unfold stepB
  grind
theorem sq64 (c : BitVec 64) : (2#64 * c) * (2#64 * c) = 4#64 * (c * c) := by grind
theorem inv_right {a c : BitVec 64} (h : 1#64 - a * a = 2#64 * c) : a * invB a = 1#64 := by
  have e : 1#64 - a * invB a = 0#64 := by
    unfold invB
    simp only [step_err, h]
    have z : (18446744073709551616 : BitVec 64) = 0#64 := by decide
    have p2 : ∀ d : BitVec 64, (2#64 * d) * (2#64 * d) = 4#64 * (d * d) := fun d => by grind
    have p4 : ∀ d : BitVec 64, (4#64 * d) * (4#64 * d) = 16#64 * (d * d) := fun d => by grind
    have p16 : ∀ d : BitVec 64, (16#64 * d) * (16#64 * d) = 256#64 * (d * d) := fun d => by grind
    have p256 : ∀ d : BitVec 64, (256#64 * d) * (256#64 * d) = 65536#64 * (d * d) := fun d => by grind
    have p65536 : ∀ d : BitVec 64, (65536#64 * d) * (65536#64 * d) = 4294967296#64 * (d * d) := fun d => by grind
    have plast : ∀ d : BitVec 64, (4294967296#64 * d) * (4294967296#64 * d) = 0#64 := fun d => by grind
    rw [p2, p4, p16, p256, p65536, plast]
  grind
end Go.Proofs.Ytmdncdepdnpjiaa.U
namespace Go.Proofs.Ytmdncdepdnpjiaa.U
theorem odd_err (m : BitVec 64) : 1#64 - (2#64 * m + 1#64) * (2#64 * m + 1#64) = 2#64 * (0#64 - 2#64 * m * m - 2#64 * m) := by grind
theorem inv_odd (m : BitVec 64) : (2#64 * m + 1#64) * invB (2#64 * m + 1#64) = 1#64 := inv_right (odd_err m)
theorem odd_form {a : Int} (h : a % 2 = 1) : ∃ m : BitVec 64, B a = 2#64 * m + 1#64 := by
  refine ⟨B (a / 2), ?_⟩
  have e : a = 2 * (a / 2) + 1 := by omega
  conv => lhs; rw [e]
  rw [B_add, B_mul]
  rfl
theorem inv_of_odd {a : Int} (h : a % 2 = 1) : B a * invB (B a) = 1#64 := by
  obtain ⟨m, hm⟩ := odd_form h
  rw [hm]
  exact inv_odd m
/-- What times a number is 1 is odd, and only one number is that. -/
theorem inv_unique {a x y : BitVec 64} (h : a * x = 1#64) (h2 : x * y = 1#64) : y = a := by grind
theorem odd_of_inv {a x : BitVec 64} (h : a * x = 1#64) : I x % 2 = 1 := by
  have h1 : (a * x).toNat = 1 := by rw [h]; rfl
  rw [BitVec.toNat_mul] at h1
  unfold I
  have h2 : a.toNat * x.toNat % 2 = 1 := by omega
  have h3 : x.toNat % 2 = 1 := by
    rcases Nat.mod_two_eq_zero_or_one x.toNat with h | h
    · rw [Nat.mul_mod, h] at h2
      simp at h2
    · exact h
  omega
def unmixB (w : BitVec 64) : BitVec 64 := turnD (turnD (turnD w * invB c2) * invB c1)
theorem inv_c1 : c1 * invB c1 = 1#64 := inv_of_odd (a := 18397679294719823053) (by decide)
theorem inv_c2 : c2 * invB c2 = 1#64 := inv_of_odd (a := 14181476777654086739) (by decide)
theorem mul_inv {w c d : BitVec 64} (h : c * d = 1#64) : w * c * d = w := by
  rw [BitVec.mul_assoc, h, BitVec.mul_one]
theorem mul_inv' {w c d : BitVec 64} (h : c * d = 1#64) : w * d * c = w := by
  rw [BitVec.mul_assoc, BitVec.mul_comm d c, h, BitVec.mul_one]
theorem unmix_mix (w : BitVec 64) : unmixB (mixB w) = w := by
  unfold unmixB mixB
  rw [turnD_turnD, mul_inv inv_c2, turnD_turnD, mul_inv inv_c1, turnD_turnD]
theorem mix_unmix (w : BitVec 64) : mixB (unmixB w) = w := by
  unfold unmixB mixB
  rw [turnD_turnD, mul_inv' inv_c1, turnD_turnD, mul_inv' inv_c2, turnD_turnD]
end Go.Proofs.Ytmdncdepdnpjiaa.U
namespace Go.Proofs.Ytmdncdepdnpjiaa.PMixBack
open Go Go.RowKit Go.Proofs.YtmdncdepdnpjiaaW.PrintWords Go.Proofs.YtmdncdepdnpjiaaW.PrintLast Go.Proofs.YtmdncdepdnpjiaaW.PrintMore Go.Proofs.Ytmdncdepdnpjiaa.U
theorem step_num (a x : BitVec 64) : IntKind.u64.wrap (I x * (IntKind.u64.wrap (2 - (IntKind.u64.wrap (I a * I x))))) = I (stepB a x) := by
  unfold stepB
  have e : ∀ y : Int, B (2 - y) = 2#64 - B y := by
    intro y
    have h : (2 : Int) - y = 2 + (-1) * y := by omega
    rw [h, B_add, B_mul]
    have h1 : B (-1) = -1#64 := by decide
    have h2 : B 2 = 2#64 := by decide
    rw [h1, h2]
    grind
  rw [wrapU, B_mul, B_wrapU, e, B_wrapU, B_mul, B_I, B_I]
theorem inv_l0 {k : Nat} (hk : 6 < k) (a : BitVec 64) : mix_Invert.l0 k (I a) (I a) 0 = some (I (invB a)) := by
  obtain ⟨k, rfl⟩ : ∃ m, k = m + 7 := ⟨k - 7, by omega⟩
  have w1 : wrap64 (0 + 1) = 1 := w64 (by decide) (by decide)
  have w2 : wrap64 (1 + 1) = 2 := w64 (by decide) (by decide)
  have w3 : wrap64 (2 + 1) = 3 := w64 (by decide) (by decide)
  have w4 : wrap64 (3 + 1) = 4 := w64 (by decide) (by decide)
  have w5 : wrap64 (4 + 1) = 5 := w64 (by decide) (by decide)
  have w6 : wrap64 (5 + 1) = 6 := w64 (by decide) (by decide)
  simp only [mix_Invert.l0]
  rw [if_pos (by decide), step_num, w1, if_pos (by decide), step_num, w2, if_pos (by decide), step_num, w3, if_pos (by decide), step_num, w4, if_pos (by decide), step_num, w5, if_pos (by decide), step_num, w6, if_neg (by decide)]
  rfl
theorem and_one {a : Int} (_ : 0 ≤ a) : bits .and .u64 a 1 = a % 2 := by
  rw [bitsU_and]
  have h : B 1 = 1#64 := by decide
  rw [h]
  unfold I
  rw [BitVec.toNat_and, toNat_B]
  have h2 : (1#64).toNat = 1 := rfl
  rw [h2, Nat.and_one_is_mod]
  omega
theorem inv_even {k : Nat} {a : Int} (h0 : 0 ≤ a) (h : a % 2 = 0) : mix_Invert.f k a = some 0 := by
  unfold mix_Invert.f
  rw [and_one h0, if_pos h]
theorem inv_f {k : Nat} (hk : 6 < k) {a : Int} (h0 : 0 ≤ a) (h1 : a < 18446744073709551616) (h : a % 2 = 1) : mix_Invert.f k a = some (I (invB (B a))) := by
  unfold mix_Invert.f
  rw [and_one h0, if_neg (by omega)]
  have e := inv_l0 hk (B a)
  rw [I_B_of h0 h1] at e
  exact e
theorem inv_k1 {k : Nat} (hk : 6 < k) : mix_Invert.f k 18397679294719823053 = some (I (invB c1)) := inv_f hk (by decide) (by decide) (by decide)
theorem inv_k2 {k : Nat} (hk : 6 < k) : mix_Invert.f k 14181476777654086739 = some (I (invB c2)) := inv_f hk (by decide) (by decide) (by decide)
theorem mulI_f (a b : BitVec 64) : mix_turn.f (IntKind.u64.wrap (I a * I b)) = some (I (turnD (a * b))) := by
  rw [mul_f, B_I]
theorem unmix_fB {k : Nat} (hk : 6 < k) (b : BitVec 64) : mix_Unmix.f k (I b) = some (I (unmixB b)) := by
  unfold mix_Unmix.f unmixB
  rw [mturn_f, inv_k1 hk, inv_k2 hk]
  simp only [bsome]
  rw [mulI_f]
  simp only [bsome]
  rw [mulI_f]
  simp only [bsome]
theorem awake_20 : revenantlaw12_awake.f 20 = some true := by decide +kernel
end Go.Proofs.Ytmdncdepdnpjiaa.PMixBack
namespace Go.Proofs.Ytmdncdepdnpjiaa.Pure
open Go Go.RowKit Go.Proofs.Ytmdncdepdnpjiaa.PMixBack Go.Proofs.YtmdncdepdnpjiaaW.PrintWords Go.Proofs.YtmdncdepdnpjiaaW.PrintLast Go.Proofs.YtmdncdepdnpjiaaW.PrintMore Go.Proofs.Ytmdncdepdnpjiaa.U
theorem back_tail (a b : BitVec 64) : revenantlaw12_MixBack.j0 20 (I a) (I b) false = some true := by
  simp only [revenantlaw12_MixBack.j0, Bool.false_eq_true, if_false]
  rw [mix_fB, mix_fB]
  simp only [bsome]
  rw [unmix_fB (by omega), unmix_fB (by omega), unmix_mix]
  simp only [bsome]
  rw [mix_fB, mix_unmix]
  have e : (I (mixB a) == I (mixB b)) = (I a == I b) := by
    rw [Bool.eq_iff_iff]
    simp only [beq_iff_eq, I_inj]
    constructor
    · intro h
      have := congrArg unmixB h
      rwa [unmix_mix, unmix_mix] at this
    · intro h
      rw [h]
  rw [e]
  simp
theorem MixBack : revenantlaw12_MixBack.Pure := by
  intro a b ha hb
  rw [wf_u64] at ha hb
  obtain ⟨h0, h1⟩ := ha
  have ea : I (B a) = a := I_B_of h0 h1
  have eb : I (B b) = b := I_B_of hb.1 hb.2
  have tail : revenantlaw12_MixBack.j0 20 a b false = some true := by
    have := back_tail (B a) (B b)
    rwa [ea, eb] at this
  refine ⟨20, ?_⟩
  unfold revenantlaw12_MixBack.f
  rw [awake_20, tmod_pos h0]
  simp only [bsome, if_true]
  rcases (by omega : a % 2 = 0 ∨ a % 2 = 1) with h | h
  · rw [inv_even h0 h, h]
    simp only [bsome, if_true]
    rw [if_neg (by decide)]
    exact tail
  · rw [inv_f (by omega) h0 h1 h, h]
    simp only [bsome, if_true]
    rw [if_neg (by decide)]
    have hm : IntKind.u64.wrap (a * I (invB (B a))) = 1 := by
      rw [wrapU, B_mul, B_I, inv_of_odd h]
      rfl
    rw [if_pos hm]
    have ho := odd_of_inv (inv_of_odd h)
    have hr : mix_Invert.f 20 (I (invB (B a))) = some a := by
      rw [inv_f (by omega) (I_nonneg _) (I_lt _) ho, B_I]
      have e2 := inv_of_odd ho
      rw [B_I] at e2
      rw [inv_unique (inv_of_odd h) e2, ea]
    rw [hr]
    simp only [bsome, bne_self_eq_false]
    exact tail
end Go.Proofs.Ytmdncdepdnpjiaa.Pure
