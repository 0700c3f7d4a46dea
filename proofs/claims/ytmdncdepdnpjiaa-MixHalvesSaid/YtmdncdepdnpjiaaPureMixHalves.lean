/-
Of every key and number: twice the buckets halve each bucket. No condition beyond the row's own.
-/
import Derived.Test.YtmdncdepdnpjiaaPMixHalvesx2
import Derived.Test.YtmdncdepdnpjiaaWords
namespace Go.Proofs.Ytmdncdepdnpjiaa.PMixHalves
open Go Go.RowKit Go.Proofs.YtmdncdepdnpjiaaW.PrintWords Go.Proofs.YtmdncdepdnpjiaaW.PrintLast Go.Proofs.YtmdncdepdnpjiaaW.PrintMore Go.Proofs.Ytmdncdepdnpjiaa.U
set_option linter.unusedVariables false
/-- The error of a structure. -/
def CheckV (a b c d e : Int) : Int :=
  if a < 1 ∨ 3 < a then 8
  else if b < 1 ∨ 8388607 < b ∨ e < 2 ∨ 1099511627775 < e ∨ (a = 2 ∧ (c < 1 ∨ 64 < c)) ∨ (a ≠ 2 ∧ c ≠ 0) ∨ (a = 3 ∧ (d < 1 ∨ 16 < d)) ∨ (a ≠ 3 ∧ d ≠ 1) then 3 else 0
theorem within_f (a b c : Int) : conf_within.f a b c = some (decide (b ≤ a ∧ a ≤ c)) := by
  unfold conf_within.f
  by_cases h : a ≥ b
  · rw [if_pos h]; simp [h]
  · rw [if_neg h]; simp; omega
theorem check_f {k : Nat} (hk : 1 ≤ k) (a b c d e : Int) : conf_Check.f k a b c d e = some (CheckV a b c d e) := by
  obtain ⟨k, rfl⟩ : ∃ m, k = m + 1 := ⟨k - 1, by omega⟩
  unfold conf_Check.f conf_sizes.f
  simp only [within_f]
  by_cases h1 : a = 1
  · subst h1
    simp only [if_true, Option.bind_some, conf_Check.j0, within_f, CheckV]
    grind
  · by_cases h2 : a = 2
    · subst h2
      simp only [if_true, Option.bind_some, conf_Check.j0, within_f, CheckV]
      grind
    · by_cases h3 : a = 3
      · subst h3
        simp only [if_true, Option.bind_some, conf_Check.j0, within_f, CheckV]
        grind
      · simp only [h1, h2, h3, if_false, Option.bind_some, Bool.false_eq_true, CheckV]
        rw [if_pos (by omega)]
theorem check_zero {a b c d e : Int} (h : CheckV a b c d e = 0) : (a = 1 ∨ a = 2 ∨ a = 3) ∧ 1 ≤ b ∧ b ≤ 8388607 ∧ 2 ≤ e ∧ e ≤ 1099511627775 ∧ (a = 2 → 1 ≤ c ∧ c ≤ 64) ∧ (a ≠ 2 → c = 0) ∧ (a = 3 → 1 ≤ d ∧ d ≤ 16) ∧ (a ≠ 3 → d = 1) := by
  unfold CheckV at h
  split at h
  · omega
  · split at h
    · omega
    · omega
theorem check_cases (a b c d e : Int) : CheckV a b c d e = 0 ∨ CheckV a b c d e = 3 ∨ CheckV a b c d e = 8 := by
  unfold CheckV
  split
  · omega
  · split <;> omega
end Go.Proofs.Ytmdncdepdnpjiaa.PMixHalves
namespace Go.Proofs.Ytmdncdepdnpjiaa.U
/-- By itself, shifted down. -/
def turnD (w : BitVec 64) : BitVec 64 := w ^^^ (w >>> 33)
def c1 : BitVec 64 := B 18397679294719823053
def c2 : BitVec 64 := B 14181476777654086739
def mixB (w : BitVec 64) : BitVec 64 := turnD (turnD (turnD w * c1) * c2)
theorem c1_eq : B 18397679294719823053 = c1 := rfl
theorem c2_eq : B 14181476777654086739 = c2 := rfl
theorem turnD_turnD (w : BitVec 64) : turnD (turnD w) = w := by
  apply eq_of_bits
  intro i hi
  unfold turnD
  simp only [BitVec.getLsbD_xor, BitVec.getLsbD_ushiftRight]
  have h : w.getLsbD (33 + (33 + i)) = false := BitVec.getLsbD_of_ge _ _ (by omega)
  rw [h]
  cases w.getLsbD i <;> cases w.getLsbD (33 + i) <;> rfl
/-- The hash's number. -/
def buck (n : Nat) (w : BitVec 64) : Nat := (mixB w).toNat / 4294967296 * n / 4294967296
theorem buck_lt {n : Nat} (hn : 1 ≤ n) (w : BitVec 64) : buck n w < n := by
  unfold buck
  have h := (mixB w).isLt
  have h1 : (mixB w).toNat / 4294967296 < 4294967296 := by omega
  have h2 : (mixB w).toNat / 4294967296 * n < 4294967296 * n := (Nat.mul_lt_mul_right (by omega)).2 h1
  exact Nat.div_lt_of_lt_mul h2
end Go.Proofs.Ytmdncdepdnpjiaa.U
namespace Go.Proofs.Ytmdncdepdnpjiaa.PMixHalves
open Go Go.RowKit Go.Proofs.YtmdncdepdnpjiaaW.PrintWords Go.Proofs.YtmdncdepdnpjiaaW.PrintLast Go.Proofs.YtmdncdepdnpjiaaW.PrintMore Go.Proofs.Ytmdncdepdnpjiaa.U
set_option linter.unusedVariables false
theorem B_div33 (b : BitVec 64) : B (I b / 8589934592) = b >>> 33 := by
  have h := I_ushr b 33
  have e : (2 : Int) ^ 33 = 8589934592 := by decide
  rw [e] at h
  rw [h, B_I]
theorem mturn_f (b : BitVec 64) : mix_turn.f (I b) = some (I (turnD b)) := by
  unfold mix_turn.f turnD
  rw [bitsU_xor, B_I, B_div33]
theorem mul_f (b : BitVec 64) (c : Int) : mix_turn.f (IntKind.u64.wrap (I b * c)) = some (I (turnD (b * B c))) := by
  rw [wrapU, B_mul, B_I, mturn_f]
theorem mix_fB (b : BitVec 64) : mix_Mix.f (I b) = some (I (mixB b)) := by
  unfold mix_Mix.f mixB
  rw [mturn_f]
  simp only [bsome]
  rw [mul_f (turnD b) 18397679294719823053, c1_eq]
  simp only [bsome]
  rw [mul_f, c2_eq]
  simp only [bsome]
theorem mix_f {x : Int} (h0 : 0 ≤ x) (h1 : x < 18446744073709551616) : mix_Mix.f x = some (I (mixB (B x))) := by
  have h := mix_fB (B x)
  rw [I_B_of h0 h1] at h
  exact h
theorem bucket_num {n : Int} (n0 : 1 ≤ n) (n1 : n ≤ 64) (b : BitVec 64) : wrap64 ((IntKind.u64.wrap ((I (mixB b) / 4294967296) * (IntKind.u64.wrap n))) / 4294967296) = (buck n.toNat b : Int) := by
  have h0 := I_nonneg (mixB b)
  have h1 := I_lt (mixB b)
  have hb := buck_lt (n := n.toNat) (by omega) b
  have hn : IntKind.u64.wrap n = n := by rw [wrapU_mod]; omega
  rw [hn]
  have hd : I (mixB b) / 4294967296 < 4294967296 := by omega
  have hd0 : 0 ≤ I (mixB b) / 4294967296 := by omega
  have hm : 0 ≤ (I (mixB b) / 4294967296) * n ∧ (I (mixB b) / 4294967296) * n < 18446744073709551616 := by
    constructor
    · exact Int.mul_nonneg hd0 (by omega)
    · have : (I (mixB b) / 4294967296) * n ≤ 4294967296 * n := Int.mul_le_mul_of_nonneg_right (by omega) (by omega)
      omega
  rw [wrapU_mod, Int.emod_eq_of_lt hm.1 hm.2]
  have e : (buck n.toNat b : Int) = I (mixB b) / 4294967296 * n / 4294967296 := by
    unfold buck I
    have en : (n.toNat : Int) = n := Int.toNat_of_nonneg (by omega)
    rw [Int.natCast_ediv, Int.natCast_mul, Int.natCast_ediv, en]
    rfl
  rw [← e, w64 (by omega) (by omega)]
theorem bucket_yes {k : Nat} (hk : 1 ≤ k) {b c d e x : Int} (hc : CheckV 2 b c d e = 0) (h0 : 0 ≤ x) (h1 : x < 18446744073709551616) : mix_Bucket.f k 2 b c d e x = some (buck c.toNat (B x) : Int) := by
  have z := check_zero hc
  unfold mix_Bucket.f
  rw [check_f hk, hc, mix_f h0 h1]
  simp only [bsome, if_true]
  rw [bucket_num (by omega) (by omega)]
theorem bucket_no {k : Nat} (hk : 1 ≤ k) {a b c d e x : Int} (hc : ¬ (CheckV a b c d e = 0 ∧ a = 2)) : mix_Bucket.f k a b c d e x = some 0 := by
  unfold mix_Bucket.f
  rw [check_f hk]
  simp only [bsome]
  by_cases h : CheckV a b c d e = 0
  · rw [if_pos h, if_neg (fun h2 => hc ⟨h, h2⟩)]
  · rw [if_neg h]
end Go.Proofs.Ytmdncdepdnpjiaa.PMixHalves
namespace Go.Proofs.Ytmdncdepdnpjiaa.Pure
open Go Go.RowKit Go.Proofs.Ytmdncdepdnpjiaa.PMixHalves Go.Proofs.YtmdncdepdnpjiaaW.PrintWords Go.Proofs.YtmdncdepdnpjiaaW.PrintLast Go.Proofs.YtmdncdepdnpjiaaW.PrintMore Go.Proofs.Ytmdncdepdnpjiaa.U
theorem awake_20 : revenantlaw12_awake.f 20 = some true := by decide +kernel
theorem halves (n : Nat) (b : BitVec 64) : buck (2 * n) b / 2 = buck n b := by
  unfold buck
  generalize (mixB b).toNat / 4294967296 = h
  have e : h * (2 * n) = (h * n) * 2 := by rw [Nat.mul_comm 2 n, Nat.mul_assoc]
  rw [e]
  omega
theorem hash_check {n : Int} (h0 : 1 ≤ n) (h1 : n ≤ 64) : CheckV 2 1 n 1 2 = 0 := by
  unfold CheckV
  rw [if_neg (by omega), if_neg (by omega)]
theorem MixHalves : revenantlaw12_MixHalves.Pure := by
  intro x n hx hn
  rw [wf_u64] at hx
  rw [wf_i64] at hn
  obtain ⟨h0, h1⟩ := hx
  refine ⟨20, ?_⟩
  have e : wrap64 (1 + wrap64 (Int.tmod (IntKind.u64.wrap n) 32)) = 1 + n % 32 := by
    have h : 0 ≤ IntKind.u64.wrap n := by rw [wrapU_mod]; omega
    rw [tmod_pos h, wrapU_mod, w64 (x := n % 18446744073709551616 % 32) (by omega) (by omega), w64 (by omega) (by omega)]
    omega
  unfold revenantlaw12_MixHalves.f
  rw [awake_20, e]
  simp only [bsome, if_true, revenantlaw12_hash.f]
  rw [w64 (x := 2 * (1 + n % 32)) (by omega) (by omega), bucket_yes (by omega) (hash_check (by omega) (by omega)) h0 h1, bucket_yes (by omega) (hash_check (by omega) (by omega)) h0 h1]
  simp only [bsome]
  have hb := buck_lt (n := (1 + n % 32).toNat) (by omega) (B x)
  have hh := halves (1 + n % 32).toNat (B x)
  have e2 : (2 * (1 + n % 32)).toNat = 2 * (1 + n % 32).toNat := by omega
  rw [e2, if_pos (by omega), if_pos (by omega)]
  have hb2 := buck_lt (n := 2 * (1 + n % 32).toNat) (by omega) (B x)
  rw [Int.tdiv_eq_ediv_of_nonneg (by omega), w64 (by omega) (by omega)]
  simp
  omega
end Go.Proofs.Ytmdncdepdnpjiaa.Pure
