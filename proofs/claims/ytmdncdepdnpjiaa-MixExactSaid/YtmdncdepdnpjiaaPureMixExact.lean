/-
Of every key and structure: the mixed key and its bucket are the document's. No condition beyond the row's own.
-/
import Derived.Test.YtmdncdepdnpjiaaTMixExact
import Derived.Test.YtmdncdepdnpjiaaWords
namespace Go.Proofs.Ytmdncdepdnpjiaa.PMixExact
open Go Go.RowKit Go.Proofs.YtmdncdepdnpjiaaW.PrintWords Go.Proofs.YtmdncdepdnpjiaaW.PrintLast Go.Proofs.YtmdncdepdnpjiaaW.PrintMore Go.Proofs.Ytmdncdepdnpjiaa.U
set_option linter.unusedVariables false
/-- The error of a structure. -/
def CheckV (a b c d e : Int) : Int :=
  if a < 1 ∨ 3 < a then 8
  else if b < 1 ∨ 8388607 < b ∨ e < 2 ∨ 1099511627775 < e ∨ (a = 2 ∧ (c < 1 ∨ 64 < c)) ∨ (a ≠ 2 ∧ c ≠ 0) ∨ (a = 3 ∧ (d < 1 ∨ 16 < d)) ∨ (a ≠ 3 ∧ d ≠ 1) then 3 else 0
theorem within_f (a b c : Int) : conf_within.f a b c = some (decide (b ≤ a ∧ a ≤ c)) := by
  unfold conf_within.f
  by_cases h : a ≥ b
  · rw [if_pos h]; simp [h]
  · rw [if_neg h]; simp; omega
theorem check_f {k : Nat} (hk : 1 ≤ k) (a b c d e : Int) : conf_Check.f k a b c d e = some (CheckV a b c d e) := by
  obtain ⟨k, rfl⟩ : ∃ m, k = m + 1 := ⟨k - 1, by omega⟩
  unfold conf_Check.f conf_sizes.f
  simp only [within_f]
  by_cases h1 : a = 1
  · subst h1
    simp only [if_true, Option.bind_some, conf_Check.j0, within_f, CheckV]
    grind
  · by_cases h2 : a = 2
    · subst h2
      simp only [if_true, Option.bind_some, conf_Check.j0, within_f, CheckV]
      grind
    · by_cases h3 : a = 3
      · subst h3
        simp only [if_true, Option.bind_some, conf_Check.j0, within_f, CheckV]
        grind
      · simp only [h1, h2, h3, if_false, Option.bind_some, Bool.false_eq_true, CheckV]
        rw [if_pos (by omega)]
theorem check_zero {a b c d e : Int} (h : CheckV a b c d e = 0) : (a = 1 ∨ a = 2 ∨ a = 3) ∧ 1 ≤ b ∧ b ≤ 8388607 ∧ 2 ≤ e ∧ e ≤ 1099511627775 ∧ (a = 2 → 1 ≤ c ∧ c ≤ 64) ∧ (a ≠ 2 → c = 0) ∧ (a = 3 → 1 ≤ d ∧ d ≤ 16) ∧ (a ≠ 3 → d = 1) := by
  unfold CheckV at h
  split at h
  · omega
  · split at h
    · omega
    · omega
theorem check_cases (a b c d e : Int) : CheckV a b c d e = 0 ∨ CheckV a b c d e = 3 ∨ CheckV a b c d e = 8 := by
  unfold CheckV
  split
  · omega
  · split <;> omega
end Go.Proofs.Ytmdncdepdnpjiaa.PMixExact
namespace Go.Proofs.Ytmdncdepdnpjiaa.U
/-- By itself, shifted down. -/
def turnD (w : BitVec 64) : BitVec 64 := w ^^^ (w >>> 33)
def c1 : BitVec 64 := B 18397679294719823053
def c2 : BitVec 64 := B 14181476777654086739
def mixB (w : BitVec 64) : BitVec 64 := turnD (turnD (turnD w * c1) * c2)
theorem c1_eq : B 18397679294719823053 = c1 := rfl
theorem c2_eq : B 14181476777654086739 = c2 := rfl
theorem turnD_turnD (w : BitVec 64) : turnD (turnD w) = w := by
  apply eq_of_bits
  intro i hi
  unfold turnD
  simp only [BitVec.getLsbD_xor, BitVec.getLsbD_ushiftRight]
  have h : w.getLsbD (33 + (33 + i)) = false := BitVec.getLsbD_of_ge _ _ (by omega)
  rw [h]
  cases w.getLsbD i <;> cases w.getLsbD (33 + i) <;> rfl
/-- The hash's number. -/
def buck (n : Nat) (w : BitVec 64) : Nat := (mixB w).toNat / 4294967296 * n / 4294967296
theorem buck_lt {n : Nat} (hn : 1 ≤ n) (w : BitVec 64) : buck n w < n := by
  unfold buck
  have h := (mixB w).isLt
  have h1 : (mixB w).toNat / 4294967296 < 4294967296 := by omega
  have h2 : (mixB w).toNat / 4294967296 * n < 4294967296 * n := (Nat.mul_lt_mul_right (by omega)).2 h1
  exact Nat.div_lt_of_lt_mul h2
end Go.Proofs.Ytmdncdepdnpjiaa.U
namespace Go.Proofs.Ytmdncdepdnpjiaa.PMixExact
open Go Go.RowKit Go.Proofs.YtmdncdepdnpjiaaW.PrintWords Go.Proofs.YtmdncdepdnpjiaaW.PrintLast Go.Proofs.YtmdncdepdnpjiaaW.PrintMore Go.Proofs.Ytmdncdepdnpjiaa.U
set_option linter.unusedVariables false
theorem B_div33 (b : BitVec 64) : B (I b / 8589934592) = b >>> 33 := by
  have h := I_ushr b 33
  have e : (2 : Int) ^ 33 = 8589934592 := by decide
  rw [e] at h
  rw [h, B_I]
theorem mturn_f (b : BitVec 64) : mix_turn.f (I b) = some (I (turnD b)) := by
  unfold mix_turn.f turnD
  rw [bitsU_xor, B_I, B_div33]
theorem mul_f (b : BitVec 64) (c : Int) : mix_turn.f (IntKind.u64.wrap (I b * c)) = some (I (turnD (b * B c))) := by
  rw [wrapU, B_mul, B_I, mturn_f]
theorem mix_fB (b : BitVec 64) : mix_Mix.f (I b) = some (I (mixB b)) := by
  unfold mix_Mix.f mixB
  rw [mturn_f]
  simp only [bsome]
  rw [mul_f (turnD b) 18397679294719823053, c1_eq]
  simp only [bsome]
  rw [mul_f, c2_eq]
  simp only [bsome]
theorem mix_f {x : Int} (h0 : 0 ≤ x) (h1 : x < 18446744073709551616) : mix_Mix.f x = some (I (mixB (B x))) := by
  have h := mix_fB (B x)
  rw [I_B_of h0 h1] at h
  exact h
theorem bucket_num {n : Int} (n0 : 1 ≤ n) (n1 : n ≤ 64) (b : BitVec 64) : wrap64 ((IntKind.u64.wrap ((I (mixB b) / 4294967296) * (IntKind.u64.wrap n))) / 4294967296) = (buck n.toNat b : Int) := by
  have h0 := I_nonneg (mixB b)
  have h1 := I_lt (mixB b)
  have hb := buck_lt (n := n.toNat) (by omega) b
  have hn : IntKind.u64.wrap n = n := by rw [wrapU_mod]; omega
  rw [hn]
  have hd : I (mixB b) / 4294967296 < 4294967296 := by omega
  have hd0 : 0 ≤ I (mixB b) / 4294967296 := by omega
  have hm : 0 ≤ (I (mixB b) / 4294967296) * n ∧ (I (mixB b) / 4294967296) * n < 18446744073709551616 := by
    constructor
    · exact Int.mul_nonneg hd0 (by omega)
    · have : (I (mixB b) / 4294967296) * n ≤ 4294967296 * n := Int.mul_le_mul_of_nonneg_right (by omega) (by omega)
      omega
  rw [wrapU_mod, Int.emod_eq_of_lt hm.1 hm.2]
  have e : (buck n.toNat b : Int) = I (mixB b) / 4294967296 * n / 4294967296 := by
    unfold buck I
    have en : (n.toNat : Int) = n := Int.toNat_of_nonneg (by omega)
    rw [Int.natCast_ediv, Int.natCast_mul, Int.natCast_ediv, en]
    rfl
  rw [← e, w64 (by omega) (by omega)]
theorem bucket_yes {k : Nat} (hk : 1 ≤ k) {b c d e x : Int} (hc : CheckV 2 b c d e = 0) (h0 : 0 ≤ x) (h1 : x < 18446744073709551616) : mix_Bucket.f k 2 b c d e x = some (buck c.toNat (B x) : Int) := by
  have z := check_zero hc
  unfold mix_Bucket.f
  rw [check_f hk, hc, mix_f h0 h1]
  simp only [bsome, if_true]
  rw [bucket_num (by omega) (by omega)]
theorem bucket_no {k : Nat} (hk : 1 ≤ k) {a b c d e x : Int} (hc : ¬ (CheckV a b c d e = 0 ∧ a = 2)) : mix_Bucket.f k a b c d e x = some 0 := by
  unfold mix_Bucket.f
  rw [check_f hk]
  simp only [bsome]
  by_cases h : CheckV a b c d e = 0
  · rw [if_pos h, if_neg (fun h2 => hc ⟨h, h2⟩)]
  · rw [if_neg h]
end Go.Proofs.Ytmdncdepdnpjiaa.PMixExact
namespace Go.Proofs.Ytmdncdepdnpjiaa.PMixExact
open Go Go.RowKit Go.Proofs.YtmdncdepdnpjiaaW.PrintWords Go.Proofs.YtmdncdepdnpjiaaW.PrintLast Go.Proofs.YtmdncdepdnpjiaaW.PrintMore Go.Proofs.Ytmdncdepdnpjiaa.U
set_option linter.unusedVariables false
theorem rcheck_f {k : Nat} (hk : 3 ≤ k) (a b c d e : Int) : revenantref03_Check.f k a b c d e = some (CheckV a b c d e) := by
  obtain ⟨k, rfl⟩ : ∃ m, k = m + 3 := ⟨k - 3, by omega⟩
  unfold revenantref03_Check.f CheckV
  simp only [revenantref03_Check.j0, revenantref03_Check.j1, revenantref03_Check.j2]
  grind
end Go.Proofs.Ytmdncdepdnpjiaa.PMixExact
namespace Go.Proofs.Ytmdncdepdnpjiaa.PMixExact
open Go Go.RowKit Go.Proofs.YtmdncdepdnpjiaaW.PrintWords Go.Proofs.YtmdncdepdnpjiaaW.PrintLast Go.Proofs.YtmdncdepdnpjiaaW.PrintMore Go.Proofs.Ytmdncdepdnpjiaa.U
set_option linter.unusedVariables false
theorem rturn_f (b : BitVec 64) : revenantref12_turn.f (I b) = some (I (turnD b)) := by
  have h0 := I_nonneg b
  have h1 := I_lt b
  unfold revenantref12_turn.f turnD
  rw [Int.tdiv_eq_ediv_of_nonneg h0, bitsU_xor, B_I, B_wrapU, B_div33]
theorem rmix_fB (b : BitVec 64) : revenantref12_Mix.f (I b) = some (I (mixB b)) := by
  unfold revenantref12_Mix.f mixB
  rw [rturn_f]
  simp only [bsome]
  rw [wrapU, B_mul, B_I, c1_eq, rturn_f]
  simp only [bsome]
  rw [wrapU, B_mul, B_I, c2_eq, rturn_f]
  simp only [bsome]
theorem rmix_f {x : Int} (h0 : 0 ≤ x) (h1 : x < 18446744073709551616) : revenantref12_Mix.f x = some (I (mixB (B x))) := by
  have h := rmix_fB (B x)
  rw [I_B_of h0 h1] at h
  exact h
theorem rbucket_f {n x : Int} (n0 : 1 ≤ n) (n1 : n ≤ 64) (h0 : 0 ≤ x) (h1 : x < 18446744073709551616) : revenantref12_Bucket.f n x = some (buck n.toNat (B x) : Int) := by
  have g0 := I_nonneg (mixB (B x))
  have g1 := I_lt (mixB (B x))
  unfold revenantref12_Bucket.f
  rw [rmix_f h0 h1]
  simp only [bsome]
  have e1 : IntKind.u64.wrap (Int.tdiv (I (mixB (B x))) 4294967296) = I (mixB (B x)) / 4294967296 := by
    rw [Int.tdiv_eq_ediv_of_nonneg g0, wrapU_mod]; omega
  have e2 : ∀ y : Int, IntKind.u64.wrap (Int.tdiv (IntKind.u64.wrap y) 4294967296) = IntKind.u64.wrap y / 4294967296 := by
    intro y
    have h : 0 ≤ IntKind.u64.wrap y ∧ IntKind.u64.wrap y < 18446744073709551616 := by rw [wrapU_mod]; omega
    rw [Int.tdiv_eq_ediv_of_nonneg h.1, wrapU_mod (IntKind.u64.wrap y / 4294967296)]; omega
  rw [e1, e2, bucket_num n0 n1]
/-- Of numbers of no hash map the answer is some number, too. -/
theorem rbucket_some (n : Int) {x : Int} (h0 : 0 ≤ x) (h1 : x < 18446744073709551616) : ∃ r, revenantref12_Bucket.f n x = some r := by
  unfold revenantref12_Bucket.f
  rw [rmix_f h0 h1]
  exact ⟨_, rfl⟩
end Go.Proofs.Ytmdncdepdnpjiaa.PMixExact
namespace Go.Proofs.Ytmdncdepdnpjiaa.Pure
open Go Go.RowKit Go.Proofs.Ytmdncdepdnpjiaa.PMixExact Go.Proofs.YtmdncdepdnpjiaaW.PrintWords Go.Proofs.YtmdncdepdnpjiaaW.PrintLast Go.Proofs.YtmdncdepdnpjiaaW.PrintMore Go.Proofs.Ytmdncdepdnpjiaa.U
theorem awake_20 : revenantlaw12_awake.f 20 = some true := by decide +kernel
theorem MixExact (x a b c d e : Int) (hx : (Lit.int .u64 x).wf = true) : revenantlaw12_MixExact.f 20 x a b c d e = some true := by
  rw [wf_u64] at hx
  obtain ⟨h0, h1⟩ := hx
  unfold revenantlaw12_MixExact.f
  rw [awake_20, rcheck_f (by omega)]
  simp only [bsome, if_true]
  by_cases hc : CheckV a b c d e = 0
  · have z := check_zero hc
    rw [if_pos hc]
    by_cases h2 : a = 2
    · subst h2
      simp only [revenantlaw12_MixExact.j0, beq_self_eq_true, if_true]
      rw [rbucket_f (by omega) (by omega) h0 h1, mix_f h0 h1, rmix_f h0 h1, bucket_yes (by omega) hc h0 h1]
      simp only [bsome, if_true]
      have hb := buck_lt (n := c.toNat) (by omega) (B x)
      rw [if_pos (by omega)]
      unfold mx
      simp
      split <;> omega
    · have e2 : (a == 2) = false := by simpa using h2
      simp only [revenantlaw12_MixExact.j0, e2, Bool.false_eq_true, if_false]
      rw [mix_f h0 h1, rmix_f h0 h1, bucket_no (by omega) (fun h => h2 h.2)]
      simp only [bsome, if_true]
      unfold mx
      simp
      split <;> omega
  · rw [if_neg hc]
    simp only [revenantlaw12_MixExact.j0, Bool.false_eq_true, if_false]
    rw [mix_f h0 h1, rmix_f h0 h1, bucket_no (by omega) (fun h => hc h.1)]
    simp only [bsome, if_true]
    unfold mx
    simp
    split <;> omega
theorem RMixExact (x0 a b c d e : Int) (g : (Lit.int .u64 x0).wf = true) (_ : (Lit.int .i64 a).wf = true ∧ (Lit.int .i64 b).wf = true ∧ (Lit.int .i64 c).wf = true ∧ (Lit.int .i64 d).wf = true ∧ (Lit.int .i64 e).wf = true) :
    ∃ k, revenantlaw12_MixExact.f k x0 a b c d e = some true := ⟨20, MixExact _ _ _ _ _ _ g⟩
end Go.Proofs.Ytmdncdepdnpjiaa.Pure
