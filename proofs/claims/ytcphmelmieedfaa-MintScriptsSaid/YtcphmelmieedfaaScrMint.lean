/-
Plain forms of the mint, of conf and of rows that are compared, for MintScripts.
-/
import Derived.Test.YtcphmelmieedfaaWords
import Derived.Test.YtcphmelmieedfaaPMintScriptsx0
import Derived.Test.YtcphmelmieedfaaPMintScriptsx1
import Derived.Test.YtcphmelmieedfaaPMintScriptsx2
import Derived.Test.YtcphmelmieedfaaPMintScriptsx3
import Derived.Test.YtcphmelmieedfaaPMintScriptsx4
import Derived.Test.YtcphmelmieedfaaPMintScriptsx5
import Derived.Test.YtcphmelmieedfaaPMintScriptsx6
import Derived.Test.YtcphmelmieedfaaPMintScriptsx7
import Derived.Test.YtcphmelmieedfaaPMintScriptsx8
import Derived.Test.YtcphmelmieedfaaPMintScriptsx9
namespace Go.Proofs.Ytcphmelmieedfaa.U
open Go Go.RowKit
def stp (s : BitVec 64) : BitVec 64 := let a := s ^^^ (s >>> 12); let b := a ^^^ (a <<< 25); b ^^^ (b >>> 27)
def dn27 (s : BitVec 64) : BitVec 64 := let w := s ^^^ (s >>> 27); s ^^^ (w >>> 27)
def up25 (s : BitVec 64) : BitVec 64 := let w := s ^^^ (s <<< 25); s ^^^ (w <<< 25)
def dn12 (s : BitVec 64) : BitVec 64 := let w := s ^^^ (s >>> 12); let w := s ^^^ (w >>> 12); let w := s ^^^ (w >>> 12); let w := s ^^^ (w >>> 12); s ^^^ (w >>> 12)
theorem ushr_big (s : BitVec 64) (n : Nat) (h : 64 ≤ n) : s >>> n = 0#64 := by
  apply BitVec.eq_of_getLsbD_eq
  intro i hi
  simp [BitVec.getLsbD_ushiftRight]
  apply BitVec.getLsbD_of_ge; omega
theorem shl_big (s : BitVec 64) (n : Nat) (h : 64 ≤ n) : s <<< n = 0#64 := by
  apply BitVec.eq_of_getLsbD_eq
  intro i hi
  simp [BitVec.getLsbD_shiftLeft]
  omega
theorem bxor (a b c : BitVec 64) : a ^^^ (b ^^^ c) = b ^^^ (a ^^^ c) := by rw [← BitVec.xor_assoc, BitVec.xor_comm a b, BitVec.xor_assoc]
theorem xcan (a b : BitVec 64) : a ^^^ (a ^^^ b) = b := by rw [← BitVec.xor_assoc, BitVec.xor_self, BitVec.zero_xor]
theorem dn27_l (s : BitVec 64) : dn27 s ^^^ (dn27 s >>> 27) = s := by
  unfold dn27
  simp only [BitVec.ushiftRight_xor_distrib, ← BitVec.shiftRight_add, Nat.reduceAdd, ushr_big s 81 (by decide)]
  ac_nf
  simp
theorem dn27_r (s : BitVec 64) : dn27 (s ^^^ (s >>> 27)) = s := by
  unfold dn27
  simp only [BitVec.ushiftRight_xor_distrib, ← BitVec.shiftRight_add, Nat.reduceAdd, ushr_big s 81 (by decide)]
  ac_nf
  simp
theorem up25_l (s : BitVec 64) : up25 s ^^^ (up25 s <<< 25) = s := by
  unfold up25
  simp only [BitVec.shiftLeft_xor_distrib, ← BitVec.shiftLeft_add, Nat.reduceAdd, shl_big s 75 (by decide)]
  generalize s <<< 25 = p
  generalize s <<< 50 = q
  ac_nf
  simp
theorem up25_r (s : BitVec 64) : up25 (s ^^^ (s <<< 25)) = s := by
  unfold up25
  simp only [BitVec.shiftLeft_xor_distrib, ← BitVec.shiftLeft_add, Nat.reduceAdd, shl_big s 75 (by decide)]
  generalize s <<< 25 = p
  generalize s <<< 50 = q
  ac_nf
  simp
theorem dn12_l (s : BitVec 64) : dn12 s ^^^ (dn12 s >>> 12) = s := by
  unfold dn12
  simp only [BitVec.ushiftRight_xor_distrib, ← BitVec.shiftRight_add, Nat.reduceAdd, ushr_big s 72 (by decide)]
  ac_nf
  simp
theorem dn12_r (s : BitVec 64) : dn12 (s ^^^ (s >>> 12)) = s := by
  unfold dn12
  simp only [BitVec.ushiftRight_xor_distrib, ← BitVec.shiftRight_add, Nat.reduceAdd, ushr_big s 72 (by decide)]
  ac_nf
  simp
def bck (s : BitVec 64) : BitVec 64 := dn12 (up25 (dn27 s))
theorem stp_bck (s : BitVec 64) : stp (bck s) = s := by
  unfold stp bck
  simp only [dn12_l, up25_l, dn27_l]
theorem bck_stp (s : BitVec 64) : bck (stp s) = s := by
  unfold stp bck
  simp only [dn12_r, up25_r, dn27_r]
theorem bck_inj {a b : BitVec 64} : bck a = bck b ↔ a = b := ⟨fun h => by rw [← stp_bck a, h, stp_bck], fun h => by rw [h]⟩
theorem stp_inj {a b : BitVec 64} : stp a = stp b ↔ a = b := ⟨fun h => by rw [← bck_stp a, h, bck_stp], fun h => by rw [h]⟩
theorem bck_zero : bck 0#64 = 0#64 := by decide
theorem bck_ne {a : BitVec 64} (h : a ≠ 0#64) : bck a ≠ 0#64 := fun e => h (bck_inj.1 (e.trans bck_zero.symm))
def oddB : BitVec 64 := 0x2545F4914F6CDD1D#64
theorem odd_inv : oddB * 0x59071d96d81ecd35#64 = 1#64 := by decide
theorem odd_inj {a b : BitVec 64} : a * oddB = b * oddB ↔ a = b := ⟨fun h => by
  have e := congrArg (· * 0x59071d96d81ecd35#64) h
  simp only [BitVec.mul_assoc, odd_inv, BitVec.mul_one] at e
  exact e, fun h => by rw [h]⟩
end Go.Proofs.Ytcphmelmieedfaa.U

namespace Go.Proofs.Ytcphmelmieedfaa.PMintScripts
open Go Go.RowKit Go.Proofs.YtcphmelmieedfaaW.PrintWords Go.Proofs.YtcphmelmieedfaaW.PrintLast Go.Proofs.YtcphmelmieedfaaW.PrintMore Go.Proofs.Ytcphmelmieedfaa.U
set_option linter.unusedVariables false
/-- The error of a structure. -/
def CheckV (a b c d e : Int) : Int :=
  if a < 1 ∨ 3 < a then 8
  else if b < 1 ∨ 8388607 < b ∨ e < 2 ∨ 1099511627775 < e ∨ (a = 2 ∧ (c < 1 ∨ 64 < c)) ∨ (a ≠ 2 ∧ c ≠ 0) ∨ (a = 3 ∧ (d < 1 ∨ 16 < d)) ∨ (a ≠ 3 ∧ d ≠ 1) then 3 else 0
theorem within_f (a b c : Int) : conf_within.f a b c = some (decide (b ≤ a ∧ a ≤ c)) := by
  unfold conf_within.f
  by_cases h : a ≥ b
  · rw [if_pos h]; simp [h]
  · rw [if_neg h]; simp; omega
theorem check_f {k : Nat} (hk : 1 ≤ k) (a b c d e : Int) : conf_Check.f k a b c d e = some (CheckV a b c d e) := by
  obtain ⟨k, rfl⟩ : ∃ m, k = m + 1 := ⟨k - 1, by omega⟩
  unfold conf_Check.f conf_sizes.f
  simp only [within_f]
  by_cases h1 : a = 1
  · subst h1
    simp only [if_true, Option.bind_some, conf_Check.j0, within_f, CheckV]
    grind
  · by_cases h2 : a = 2
    · subst h2
      simp only [if_true, Option.bind_some, conf_Check.j0, within_f, CheckV]
      grind
    · by_cases h3 : a = 3
      · subst h3
        simp only [if_true, Option.bind_some, conf_Check.j0, within_f, CheckV]
        grind
      · simp only [h1, h2, h3, if_false, Option.bind_some, Bool.false_eq_true, CheckV]
        rw [if_pos (by omega)]
theorem check_zero {a b c d e : Int} (h : CheckV a b c d e = 0) : (a = 1 ∨ a = 2 ∨ a = 3) ∧ 1 ≤ b ∧ b ≤ 8388607 ∧ 2 ≤ e ∧ e ≤ 1099511627775 ∧ (a = 2 → 1 ≤ c ∧ c ≤ 64) ∧ (a ≠ 2 → c = 0) ∧ (a = 3 → 1 ≤ d ∧ d ≤ 16) ∧ (a ≠ 3 → d = 1) := by
  unfold CheckV at h
  split at h
  · omega
  · split at h
    · omega
    · omega
theorem check_cases (a b c d e : Int) : CheckV a b c d e = 0 ∨ CheckV a b c d e = 3 ∨ CheckV a b c d e = 8 := by
  unfold CheckV
  split
  · omega
  · split <;> omega
end Go.Proofs.Ytcphmelmieedfaa.PMintScripts

namespace Go.Proofs.Ytcphmelmieedfaa.PMintScripts
open Go Go.RowKit Go.Proofs.YtcphmelmieedfaaW.PrintWords Go.Proofs.YtcphmelmieedfaaW.PrintLast Go.Proofs.YtcphmelmieedfaaW.PrintMore Go.Proofs.Ytcphmelmieedfaa.U
set_option linter.unusedVariables false
theorem rcheck_f {k : Nat} (hk : 3 ≤ k) (a b c d e : Int) : revenantref03_Check.f k a b c d e = some (CheckV a b c d e) := by
  obtain ⟨k, rfl⟩ : ∃ m, k = m + 3 := ⟨k - 3, by omega⟩
  unfold revenantref03_Check.f CheckV
  simp only [revenantref03_Check.j0, revenantref03_Check.j1, revenantref03_Check.j2]
  grind
end Go.Proofs.Ytcphmelmieedfaa.PMintScripts

namespace Go.Proofs.Ytcphmelmieedfaa.PMintScripts
open Go Go.RowKit Go.Proofs.YtcphmelmieedfaaW.PrintWords Go.Proofs.YtcphmelmieedfaaW.PrintLast Go.Proofs.YtcphmelmieedfaaW.PrintMore Go.Proofs.Ytcphmelmieedfaa.U
set_option linter.unusedVariables false
/-- The error of an op of a structure that can be. -/
def OpV (a d k x v l : Int) : Int :=
  if (k = 8 ∨ (a = 2 ∧ 4 ≤ k ∧ k ≤ 7) ∨ (a ≠ 2 ∧ 1 ≤ k ∧ k ≤ 3)) then
    (if ((a ≠ 3 ∨ k ≠ 1 ∨ (1 ≤ l ∧ l ≤ d)) ∧ ((a = 3 ∧ k = 1) ∨ l = 0)) then
      (if ((v = 0 ∨ k = 4 ∨ k = 5) ∧ (x = 0 ∨ k ≠ 8)) then 0 else 1) else 3) else 8
theorem asked_f (a k : Int) : conf_isAsked.f a k = some (decide (k = 8 ∨ (a = 2 ∧ 4 ≤ k ∧ k ≤ 7) ∨ (a ≠ 2 ∧ 1 ≤ k ∧ k ≤ 3))) := by
  unfold conf_isAsked.f
  simp only [within_f, bsome]
  grind
theorem level_f (a b c d e k x v l : Int) : conf_isLevel.f a b c d e k x v l = some (decide ((a ≠ 3 ∨ k ≠ 1 ∨ (1 ≤ l ∧ l ≤ d)) ∧ ((a = 3 ∧ k = 1) ∨ l = 0))) := by
  unfold conf_isLevel.f
  simp only [within_f, bsome]
  grind
theorem bare_f (k x v l : Int) : conf_isBare.f k x v l = some (decide ((v = 0 ∨ k = 4 ∨ k = 5) ∧ (x = 0 ∨ k ≠ 8))) := by
  unfold conf_isBare.f
  by_cases h5 : k = 8
  · subst h5
    by_cases h1 : v = 0 <;> by_cases h2 : x = 0 <;> simp [h1, h2]
  · by_cases h1 : v = 0 <;> by_cases h2 : x = 0 <;> by_cases h3 : k = 4 <;> by_cases h4 : k = 5 <;> simp_all
theorem isOp_f {n : Nat} (hn : 1 ≤ n) (a b c d e k x v l : Int) : conf_IsOp.f n a b c d e k x v l = some (if CheckV a b c d e = 0 then OpV a d k x v l else CheckV a b c d e) := by
  unfold conf_IsOp.f
  rw [check_f hn]
  simp only [bsome]
  rw [asked_f, level_f, bare_f]
  simp only [bsome]
  unfold OpV
  generalize CheckV a b c d e = z
  by_cases hz : z = 0
  · rw [if_pos hz, if_pos hz]
    simp only [decide_eq_true_eq]
    split
    · split
      · split <;> rfl
      · rfl
    · rfl
  · rw [if_neg hz, if_neg hz]
end Go.Proofs.Ytcphmelmieedfaa.PMintScripts

namespace Go.Proofs.Ytcphmelmieedfaa.PMintScripts
open Go Go.RowKit Go.Proofs.YtcphmelmieedfaaW.PrintWords Go.Proofs.YtcphmelmieedfaaW.PrintLast Go.Proofs.YtcphmelmieedfaaW.PrintMore Go.Proofs.Ytcphmelmieedfaa.U
set_option linter.unusedVariables false
/-- A number out of a state. -/
def outv (b : BitVec 64) : Int := I (stp b * oddB)
def bel (b : BitVec 64) (n : Int) : Int := outv b / (4294967296 : Int) * n / (4294967296 : Int)
theorem e_shr12 (b : BitVec 64) : I b / (4096 : Int) = I (b >>> 12) := I_ushr b 12
theorem e_shr27 (b : BitVec 64) : I b / (134217728 : Int) = I (b >>> 27) := I_ushr b 27
theorem e_shl25 (c : BitVec 64) : IntKind.u64.wrap (I c * (33554432 : Int)) = I (c <<< 25) := by
  rw [wrapU, show (33554432 : Int) = 2 ^ 25 from rfl, B_shl, B_I]
theorem e_odd (c : BitVec 64) : IntKind.u64.wrap (I c * (2685821657736338717 : Int)) = I (c * oddB) := by
  rw [wrapU, B_mul, B_I]; rfl
theorem next_f (b : BitVec 64) : mint_Mint_Next.f (I b) = some (outv b, I (stp b)) := by
  unfold mint_Mint_Next.f
  simp only [e_shr12, e_shr27, e_shl25, e_odd, bitsU_xor, B_I]
  rfl
theorem outv_range (b : BitVec 64) : 0 ≤ outv b ∧ outv b < 18446744073709551616 := ⟨I_nonneg _, I_lt _⟩
theorem bel_range (b : BitVec 64) {n : Int} (h0 : 1 ≤ n) (h1 : n ≤ 2147483648) : 0 ≤ bel b n ∧ bel b n < n := by
  obtain ⟨g0, g1⟩ := outv_range b
  unfold bel
  generalize outv b = x at *
  have hq0 : 0 ≤ x / 4294967296 := by omega
  have hq1 : x / 4294967296 ≤ 4294967295 := by omega
  generalize x / 4294967296 = q at *
  have hm : q * n ≤ 4294967295 * n := Int.mul_le_mul_of_nonneg_right hq1 (by omega)
  have hp : 0 ≤ q * n := Int.mul_nonneg hq0 (by omega)
  omega
theorem below_f (b : BitVec 64) {n : Int} (h0 : 1 ≤ n) (h1 : n ≤ 2147483648) : mint_Mint_Below.f (I b) n = some (bel b n, I (stp b)) := by
  unfold mint_Mint_Below.f mint_isRange.f
  rw [if_pos h0, bsome, if_pos (by simpa using h1), next_f, bsome]
  obtain ⟨g0, g1⟩ := outv_range b
  have hb := bel_range b h0 h1
  unfold bel at hb ⊢
  generalize outv b = x at *
  have hq0 : 0 ≤ x / 4294967296 := by omega
  have hq1 : x / 4294967296 ≤ 4294967295 := by omega
  generalize x / 4294967296 = q at *
  have hm : q * n ≤ 4294967295 * n := Int.mul_le_mul_of_nonneg_right hq1 (by omega)
  have hp : 0 ≤ q * n := Int.mul_nonneg hq0 (by omega)
  have e1 : IntKind.u64.wrap n = n := by rw [wrapU_mod]; omega
  have e2 : IntKind.u64.wrap (q * n) = q * n := by
    rw [wrapU_mod]
    exact Int.emod_eq_of_lt hp (by omega)
  rw [e1, e2, w64 (by omega) (by omega)]
theorem below_no (s : Int) {n : Int} (h : ¬ (1 ≤ n ∧ n ≤ 2147483648)) : mint_Mint_Below.f s n = some (0, s) := by
  unfold mint_Mint_Below.f mint_isRange.f
  by_cases h0 : n ≥ 1
  · rw [if_pos h0, bsome, if_neg (by simp; omega)]
  · rw [if_neg h0, bsome, if_neg (by simp)]
def kindS (b : BitVec 64) (a : Int) : Int × BitVec 64 :=
  if bel b 16 = 0 then (8, stp b) else if a = 2 then (4 + bel (stp b) 4, stp (stp b)) else (1 + bel (stp b) 3, stp (stp b))
theorem kind_f (b : BitVec 64) (a c d e f : Int) : mint_Mint_kind.f (I b) a c d e f = some ((kindS b a).1, I (kindS b a).2) := by
  unfold mint_Mint_kind.f kindS
  rw [below_f b (by decide) (by decide), bsome]
  by_cases h : bel b 16 = 0
  · simp only [if_pos h]
  · simp only [if_neg h]
    by_cases h2 : a = 2
    · have := bel_range (stp b) (n := 4) (by decide) (by decide)
      rw [if_pos h2, below_f (stp b) (by decide) (by decide), bsome, w64 (by omega) (by omega)]
      simp only [if_pos h2]
    · have := bel_range (stp b) (n := 3) (by decide) (by decide)
      rw [if_neg h2, below_f (stp b) (by decide) (by decide), bsome, w64 (by omega) (by omega)]
      simp only [if_neg h2]
def lvl : Nat → Int → Int → BitVec 64 → Int × BitVec 64
  | 0, _, n, b => (n, b)
  | q + 1, h, n, b => if n < h then if bel b 2 = 0 then lvl q h (n + 1) (stp b) else (n, stp b) else (n, b)
theorem level_l (h : Int) (hh : h ≤ 1000) : ∀ (q : Nat) (k : Nat) (n : Int) (b : BitVec 64), 1 ≤ n → n + q = max n h → q < k → mint_Mint_level.l0 k h n (I b) = some ((lvl q h n b).1, I (lvl q h n b).2) := by
  intro q
  induction q with
  | zero =>
    intro k n b h1 hq hk
    obtain ⟨k, rfl⟩ : ∃ m, k = m + 1 := ⟨k - 1, by omega⟩
    simp only [mint_Mint_level.l0, lvl]
    rw [if_neg (by omega)]
  | succ q ih =>
    intro k n b h1 hq hk
    obtain ⟨k, rfl⟩ : ∃ m, k = m + 1 := ⟨k - 1, by omega⟩
    simp only [mint_Mint_level.l0, lvl]
    have hlt : n < h := by omega
    rw [if_pos hlt, below_f b (by decide) (by decide), bsome]
    simp only [if_pos hlt]
    by_cases hb : bel b 2 = 0
    · simp only [if_pos hb]
      rw [w64 (by omega) (by omega), ih k (n + 1) (stp b) (by omega) (by omega) (by omega)]
    · simp only [if_neg hb]
theorem lvl_range (h : Int) : ∀ (q : Nat) (n : Int) (b : BitVec 64), 1 ≤ n → n + q = max n h → 1 ≤ (lvl q h n b).1 ∧ (lvl q h n b).1 ≤ max n h := by
  intro q
  induction q with
  | zero => intro n b h1 hq; simp only [lvl]; omega
  | succ q ih =>
    intro n b h1 hq
    simp only [lvl]
    have hlt : n < h := by omega
    rw [if_pos hlt]
    split
    · have := ih (n + 1) (stp b) (by omega) (by omega)
      omega
    · simp only; omega
/-- An op out of a kind and a state: kind, key, value, level; the state then. -/
def OpT (kd : Int) (b1 : BitVec 64) (a h keys : Int) : Int × Int × Int × Int × BitVec 64 :=
  if kd = 8 then (8, 0, 0, 0, b1)
  else if kd = 4 ∨ kd = 5 then (kd, bel b1 keys, bel (stp b1) 100, 0, stp (stp b1))
  else if kd = 1 ∧ a = 3 then (kd, bel b1 keys, 0, (lvl (h - 1).toNat h 1 (stp b1)).1, (lvl (h - 1).toNat h 1 (stp b1)).2)
  else (kd, bel b1 keys, 0, 0, stp b1)
def OpS (b : BitVec 64) (a h keys : Int) : Int × Int × Int × Int × BitVec 64 := OpT (kindS b a).1 (kindS b a).2 a h keys
def Op5 (r : Int × Int × Int × Int × BitVec 64) : Int × Int × Int × Int × Int := (r.1, r.2.1, r.2.2.1, r.2.2.2.1, I r.2.2.2.2)
theorem kindS_range (b : BitVec 64) (a : Int) : (kindS b a).1 = 8 ∨ (a = 2 ∧ 4 ≤ (kindS b a).1 ∧ (kindS b a).1 ≤ 7) ∨ (a ≠ 2 ∧ 1 ≤ (kindS b a).1 ∧ (kindS b a).1 ≤ 3) := by
  unfold kindS
  have h4 := bel_range (stp b) (n := 4) (by decide) (by decide)
  have h3 := bel_range (stp b) (n := 3) (by decide) (by decide)
  split
  · exact .inl rfl
  · split
    · right; left; simp only; omega
    · right; right; simp only; omega
theorem op_j {k : Nat} (hk : 1100 ≤ k) (kd : Int) (b1 : BitVec 64) (a0 a1 a2 a3 a4 keys : Int) (hc : CheckV a0 a1 a2 a3 a4 = 0) (h0 : 1 ≤ keys) (h1 : keys ≤ 2147483648) :
    (if kd = 8 then mint_Mint_Op.j1 k (I b1) a0 a1 a2 a3 a4 kd 0 0 0 else (mint_Mint_Below.f (I b1) keys).bind fun t => mint_Mint_Op.j1 k t.2 a0 a1 a2 a3 a4 kd (IntKind.u64.wrap t.1) 0 0) = some (Op5 (OpT kd b1 a0 a3 keys)) := by
  obtain ⟨k, rfl⟩ : ∃ m, k = m + 2 := ⟨k - 2, by omega⟩
  obtain ⟨_, _, _, _, _, _, _, h3, h4⟩ := check_zero hc
  by_cases k8 : kd = 8
  · subst k8
    rw [if_pos rfl, show OpT 8 b1 a0 a3 keys = (8, 0, 0, 0, b1) from if_pos rfl]
    simp only [mint_Mint_Op.j1, mint_Mint_Op.j2]
    rfl
  · have hb := bel_range b1 h0 h1
    have hw : IntKind.u64.wrap (bel b1 keys) = bel b1 keys := by rw [wrapU_mod]; omega
    rw [if_neg k8, below_f b1 h0 h1, bsome, hw]
    by_cases k4 : kd = 4 ∨ kd = 5
    · have hj : mint_Mint_Op.j1 (k + 2) (I (stp b1)) a0 a1 a2 a3 a4 kd (bel b1 keys) 0 0 = mint_Mint_Op.j2 (k + 1) true (I (stp b1)) a0 a1 a2 a3 a4 kd (bel b1 keys) 0 0 := by
        simp only [mint_Mint_Op.j1]
        rcases k4 with rfl | rfl
        · rw [if_pos rfl]
        · rw [if_neg (by decide)]; rfl
      have hv := bel_range (stp b1) (n := 100) (by decide) (by decide)
      have hw2 : IntKind.u64.wrap (bel (stp b1) 100) = bel (stp b1) 100 := by rw [wrapU_mod]; omega
      rw [show OpT kd b1 a0 a3 keys = (kd, bel b1 keys, bel (stp b1) 100, 0, stp (stp b1)) from (if_neg k8).trans (if_pos k4)]
      refine hj.trans ?_
      simp only [mint_Mint_Op.j2, if_true]
      rw [below_f (stp b1) (by decide) (by decide), bsome, hw2]
      rfl
    · have hj : mint_Mint_Op.j1 (k + 2) (I (stp b1)) a0 a1 a2 a3 a4 kd (bel b1 keys) 0 0 = mint_Mint_Op.j2 (k + 1) false (I (stp b1)) a0 a1 a2 a3 a4 kd (bel b1 keys) 0 0 := by
        simp only [mint_Mint_Op.j1]
        rw [if_neg (by omega)]
        have : (kd == 5) = false := beq_eq_false_iff_ne.mpr (by omega)
        rw [this]
      refine hj.trans ?_
      simp only [mint_Mint_Op.j2, Bool.false_eq_true, if_false]
      by_cases k1 : kd = 1
      · subst k1
        by_cases ka : a0 = 3
        · subst ka
          rw [if_pos rfl, if_pos rfl, show OpT 1 b1 3 a3 keys = (1, bel b1 keys, 0, (lvl (a3 - 1).toNat a3 1 (stp b1)).1, (lvl (a3 - 1).toNat a3 1 (stp b1)).2) from (if_neg k8).trans ((if_neg k4).trans (if_pos ⟨rfl, rfl⟩))]
          unfold mint_Mint_level.f
          have h33 := h3 rfl
          rw [level_l a3 (by omega) (a3 - 1).toNat k 1 (stp b1) (by omega) (by omega) (by omega), bsome]
          rfl
        · rw [if_pos rfl, if_neg ka, show OpT 1 b1 a0 a3 keys = (1, bel b1 keys, 0, 0, stp b1) from (if_neg k8).trans ((if_neg k4).trans (if_neg (fun h => ka h.2)))]
          rfl
      · rw [if_neg k1, show OpT kd b1 a0 a3 keys = (kd, bel b1 keys, 0, 0, stp b1) from (if_neg k8).trans ((if_neg k4).trans (if_neg (fun h => k1 h.1)))]
        rfl
theorem op_f {k : Nat} (hk : 1200 ≤ k) (b : BitVec 64) (a0 a1 a2 a3 a4 keys : Int) (hc : CheckV a0 a1 a2 a3 a4 = 0) (h0 : 1 ≤ keys) (h1 : keys ≤ 2147483648) :
    mint_Mint_Op.f k (I b) a0 a1 a2 a3 a4 keys = some (Op5 (OpS b a0 a3 keys)) := by
  obtain ⟨k, rfl⟩ : ∃ m, k = m + 1 := ⟨k - 1, by omega⟩
  unfold mint_Mint_Op.f mint_isRange.f
  rw [check_f (by omega), hc, bsome, if_pos rfl, if_pos h0, bsome]
  have hd : (decide (keys ≤ 2147483648)) = true := decide_eq_true h1
  rw [hd]
  simp only [mint_Mint_Op.j0, Bool.not_true, Bool.false_eq_true, if_false]
  rw [kind_f, show OpS b a0 a3 keys = OpT (kindS b a0).1 (kindS b a0).2 a0 a3 keys from rfl]
  generalize kindS b a0 = q
  obtain ⟨kd, b1⟩ := q
  rw [bsome]
  exact op_j (by omega) kd b1 a0 a1 a2 a3 a4 keys hc h0 h1
theorem op_no {k : Nat} (hk : 10 ≤ k) (s : Int) (a0 a1 a2 a3 a4 keys : Int) (h : ¬ (CheckV a0 a1 a2 a3 a4 = 0 ∧ 1 ≤ keys ∧ keys ≤ 2147483648)) :
    mint_Mint_Op.f k s a0 a1 a2 a3 a4 keys = some (0, 0, 0, 0, s) := by
  obtain ⟨k, rfl⟩ : ∃ m, k = m + 3 := ⟨k - 3, by omega⟩
  unfold mint_Mint_Op.f mint_isRange.f
  rw [check_f (by omega), bsome]
  by_cases hc : CheckV a0 a1 a2 a3 a4 = 0
  · rw [if_pos hc]
    by_cases h0 : keys ≥ 1
    · have hd : decide (keys ≤ 2147483648) = false := decide_eq_false (by omega)
      rw [if_pos h0, bsome, hd]
      simp [mint_Mint_Op.j0]
    · rw [if_neg h0, bsome]
      simp [mint_Mint_Op.j0]
  · rw [if_neg hc]
    simp [mint_Mint_Op.j0]
end Go.Proofs.Ytcphmelmieedfaa.PMintScripts
namespace Go.Proofs.Ytcphmelmieedfaa.PMintScripts
open Go Go.RowKit Go.Proofs.YtcphmelmieedfaaW.PrintWords Go.Proofs.YtcphmelmieedfaaW.PrintLast Go.Proofs.YtcphmelmieedfaaW.PrintMore Go.Proofs.Ytcphmelmieedfaa.U
set_option linter.unusedVariables false
theorem down_step (k : Nat) (s n x : BitVec 64) (j q : Int) (hj : j < 64) (hq : 0 ≤ q) : mint_down.l0 (k + 1) (I s) q (I x) j = mint_down.l0 k (I s) q (I (s ^^^ (x >>> q.toNat))) (IntKind.u64.wrap (j + q)) := by
  simp only [mint_down.l0]
  rw [if_pos hj, if_pos hq, shrU (I_nonneg _) (I_lt _), bitsU_xor, B_I, B_I, B_I]
theorem up_step (k : Nat) (s n x : BitVec 64) (j q : Int) (hj : j < 64) (hq : 0 ≤ q) : mint_up.l0 (k + 1) (I s) q (I x) j = mint_up.l0 k (I s) q (I (s ^^^ (x <<< q.toNat))) (IntKind.u64.wrap (j + q)) := by
  simp only [mint_up.l0]
  rw [if_pos hj, if_pos hq, shlU, bitsU_xor, B_I, B_I, B_I]
theorem down_end (k : Nat) (s x : BitVec 64) (j q : Int) (hj : ¬ j < 64) : mint_down.l0 (k + 1) (I s) q (I x) j = some (I x) := by
  simp only [mint_down.l0]
  rw [if_neg hj]
theorem up_end (k : Nat) (s x : BitVec 64) (j q : Int) (hj : ¬ j < 64) : mint_up.l0 (k + 1) (I s) q (I x) j = some (I x) := by
  simp only [mint_up.l0]
  rw [if_neg hj]
theorem back_f (k : Nat) (s : BitVec 64) : mint_Back.f (k + 10) (I s) = some (I (bck s)) := by
  have h27 : ∀ s : BitVec 64, mint_down.f (k + 10) (I s) 27 = some (I (dn27 s)) := fun s =>
    (down_step (k + 9) s s s 27 27 (by decide) (by decide)).trans ((down_step (k + 8) s s _ (IntKind.u64.wrap (27 + 27)) 27 (by decide) (by decide)).trans (down_end (k + 7) s _ _ 27 (by decide)))
  have h25 : ∀ s : BitVec 64, mint_up.f (k + 10) (I s) 25 = some (I (up25 s)) := fun s =>
    (up_step (k + 9) s s s 25 25 (by decide) (by decide)).trans ((up_step (k + 8) s s _ (IntKind.u64.wrap (25 + 25)) 25 (by decide) (by decide)).trans (up_end (k + 7) s _ _ 25 (by decide)))
  have h12 : ∀ s : BitVec 64, mint_down.f (k + 10) (I s) 12 = some (I (dn12 s)) := fun s =>
    (down_step (k + 9) s s s 12 12 (by decide) (by decide)).trans ((down_step (k + 8) s s _ (IntKind.u64.wrap (12 + 12)) 12 (by decide) (by decide)).trans
      ((down_step (k + 7) s s _ (IntKind.u64.wrap (IntKind.u64.wrap (12 + 12) + 12)) 12 (by decide) (by decide)).trans
      ((down_step (k + 6) s s _ (IntKind.u64.wrap (IntKind.u64.wrap (IntKind.u64.wrap (12 + 12) + 12) + 12)) 12 (by decide) (by decide)).trans
      ((down_step (k + 5) s s _ (IntKind.u64.wrap (IntKind.u64.wrap (IntKind.u64.wrap (IntKind.u64.wrap (12 + 12) + 12) + 12) + 12)) 12 (by decide) (by decide)).trans (down_end (k + 4) s _ _ 12 (by decide))))))
  unfold mint_Back.f
  rw [h27, bsome, h25, bsome, h12, bsome]
  rfl
/-- The state of a seed. -/
def seed0 (b : BitVec 64) : BitVec 64 := if b = 0#64 then 0x9E3779B97F4A7C15#64 else b
theorem I_zero {b : BitVec 64} : I b = 0 ↔ b = 0#64 := by rw [← I_inj, show I 0#64 = 0 from rfl]
theorem new_f (b : BitVec 64) : mint_New.f (I b) = some (I (seed0 b)) := by
  unfold mint_New.f seed0
  by_cases h : b = 0#64
  · rw [if_pos (I_zero.2 h), if_pos h]; rfl
  · rw [if_neg (fun e => h (I_zero.1 e)), if_neg h]
end Go.Proofs.Ytcphmelmieedfaa.PMintScripts

namespace Go.Proofs.Ytcphmelmieedfaa.PMintScripts
open Go Go.RowKit Go.Proofs.YtcphmelmieedfaaW.PrintWords Go.Proofs.YtcphmelmieedfaaW.PrintLast Go.Proofs.YtcphmelmieedfaaW.PrintMore Go.Proofs.Ytcphmelmieedfaa.U
set_option linter.unusedVariables false
theorem t_shr12 (b : BitVec 64) : IntKind.u64.wrap (Int.tdiv (I b) (4096 : Int)) = I (b >>> 12) := by
  rw [Int.tdiv_eq_ediv_of_nonneg (I_nonneg _), e_shr12, wrapU, B_I]
theorem t_shr27 (b : BitVec 64) : IntKind.u64.wrap (Int.tdiv (I b) (134217728 : Int)) = I (b >>> 27) := by
  rw [Int.tdiv_eq_ediv_of_nonneg (I_nonneg _), e_shr27, wrapU, B_I]
theorem rnext_f (b : BitVec 64) : revenantref34_Mint_Next.f (I b) = some (outv b, I (stp b)) := by
  unfold revenantref34_Mint_Next.f
  simp only [t_shr12, t_shr27, e_shl25, e_odd, bitsU_xor, B_I]
  rfl
theorem rbelow_f (b : BitVec 64) {n : Int} (h0 : 1 ≤ n) (h1 : n ≤ 2147483648) : revenantref34_Mint_Below.f (I b) n = some (bel b n, I (stp b)) := by
  unfold revenantref34_Mint_Below.f
  rw [if_neg (by omega), if_neg (by omega), rnext_f, bsome]
  obtain ⟨g0, g1⟩ := outv_range b
  have hb := bel_range b h0 h1
  unfold bel at hb ⊢
  generalize outv b = x at *
  have hx : Int.tdiv x 4294967296 = x / 4294967296 := Int.tdiv_eq_ediv_of_nonneg g0
  dsimp only
  rw [hx]
  have hq0 : 0 ≤ x / 4294967296 := by omega
  have hq1 : x / 4294967296 ≤ 4294967295 := by omega
  generalize x / 4294967296 = q at *
  have hm : q * n ≤ 4294967295 * n := Int.mul_le_mul_of_nonneg_right hq1 (by omega)
  have hp : 0 ≤ q * n := Int.mul_nonneg hq0 (by omega)
  have e0 : IntKind.u64.wrap q = q := by rw [wrapU_mod]; omega
  have e1 : IntKind.u64.wrap n = n := by rw [wrapU_mod]; omega
  have e2 : IntKind.u64.wrap (q * n) = q * n := by
    rw [wrapU_mod]
    exact Int.emod_eq_of_lt hp (by omega)
  rw [e0, e1, e2, Int.tdiv_eq_ediv_of_nonneg hp]
  have e3 : IntKind.u64.wrap (q * n / 4294967296) = q * n / 4294967296 := by rw [wrapU_mod]; omega
  rw [e3, w64 (by omega) (by omega)]
theorem rbelow_no (s : Int) {n : Int} (h : ¬ (1 ≤ n ∧ n ≤ 2147483648)) : revenantref34_Mint_Below.f s n = some (0, s) := by
  unfold revenantref34_Mint_Below.f
  by_cases h0 : n < 1
  · rw [if_pos h0]
  · rw [if_neg h0, if_pos (by omega)]
theorem rnew_f (b : BitVec 64) : revenantref34_New.f (I b) = some (I (seed0 b)) := by
  unfold revenantref34_New.f seed0
  by_cases h : b = 0#64
  · rw [if_pos (I_zero.2 h), if_pos h]; rfl
  · rw [if_neg (fun e => h (I_zero.1 e)), if_neg h]
theorem rlevel_l (h : Int) (hh : h ≤ 1000) (c0 c1 c2 c4 kd key v : Int) : ∀ (q : Nat) (k : Nat) (n : Int) (b : BitVec 64), 1 ≤ n → n + q = max n h → q < k → revenantref34_Mint_Op.l0 k (I b) c0 c1 c2 h c4 kd key v n = some (kd, key, v, (lvl q h n b).1, I (lvl q h n b).2) := by
  intro q
  induction q with
  | zero =>
    intro k n b h1 hq hk
    obtain ⟨k, rfl⟩ : ∃ m, k = m + 1 := ⟨k - 1, by omega⟩
    simp only [revenantref34_Mint_Op.l0, lvl]
    rw [if_neg (by omega)]
  | succ q ih =>
    intro k n b h1 hq hk
    obtain ⟨k, rfl⟩ : ∃ m, k = m + 1 := ⟨k - 1, by omega⟩
    simp only [revenantref34_Mint_Op.l0, lvl]
    have hlt : n < h := by omega
    rw [if_pos hlt, rbelow_f b (by decide) (by decide), bsome]
    simp only [if_pos hlt]
    by_cases hb : bel b 2 = 0
    · simp only [if_pos hb]
      rw [w64 (by omega) (by omega), ih k (n + 1) (stp b) (by omega) (by omega) (by omega)]
    · simp only [if_neg hb]
theorem rop_j1 {k : Nat} (hk : 1100 ≤ k) (kd : Int) (hkd : 1 ≤ kd ∧ kd ≤ 7) (b1 : BitVec 64) (a0 a1 a2 a3 a4 keys : Int) (hc : CheckV a0 a1 a2 a3 a4 = 0) (h0 : 1 ≤ keys) (h1 : keys ≤ 2147483648) :
    revenantref34_Mint_Op.j1 k keys (I b1) a0 a1 a2 a3 a4 kd 0 0 0 = some (Op5 (OpT kd b1 a0 a3 keys)) := by
  obtain ⟨k, rfl⟩ : ∃ m, k = m + 4 := ⟨k - 4, by omega⟩
  obtain ⟨_, _, _, _, _, _, _, h3, h4⟩ := check_zero hc
  have k8 : ¬ kd = 8 := by omega
  have hb := bel_range b1 h0 h1
  have hw : IntKind.u64.wrap (bel b1 keys) = bel b1 keys := by rw [wrapU_mod]; omega
  simp only [revenantref34_Mint_Op.j1]
  rw [rbelow_f b1 h0 h1, bsome, hw]
  have hdone : ∀ (f : Bool) (st v : Int), f = false → revenantref34_Mint_Op.j4 (k + 1) f st a0 a1 a2 a3 a4 kd (bel b1 keys) v 0 = some (kd, bel b1 keys, v, 0, st) := by
    intro f st v hf
    subst hf
    simp only [revenantref34_Mint_Op.j4, Bool.false_eq_true, if_false]
  by_cases k4 : kd = 4 ∨ kd = 5
  · have hv := bel_range (stp b1) (n := 100) (by decide) (by decide)
    have hw2 : IntKind.u64.wrap (bel (stp b1) 100) = bel (stp b1) 100 := by rw [wrapU_mod]; omega
    have hj2 : revenantref34_Mint_Op.j2 (k + 3) true (I (stp b1)) a0 a1 a2 a3 a4 kd (bel b1 keys) 0 0 = some (Op5 (OpT kd b1 a0 a3 keys)) := by
      simp only [revenantref34_Mint_Op.j2, if_true]
      rw [rbelow_f (stp b1) (by decide) (by decide), bsome, hw2]
      simp only [revenantref34_Mint_Op.j3]
      rw [if_neg (by omega), hdone _ _ _ rfl, show OpT kd b1 a0 a3 keys = (kd, bel b1 keys, bel (stp b1) 100, 0, stp (stp b1)) from (if_neg k8).trans (if_pos k4)]
      rfl
    dsimp only
    by_cases h : kd = 4
    · rw [if_pos h]; exact hj2
    · have h5 : (kd == 5) = true := beq_iff_eq.mpr (by omega)
      rw [if_neg h, h5]; exact hj2
  · have hj2 : revenantref34_Mint_Op.j2 (k + 3) false (I (stp b1)) a0 a1 a2 a3 a4 kd (bel b1 keys) 0 0 = some (Op5 (OpT kd b1 a0 a3 keys)) := by
      simp only [revenantref34_Mint_Op.j2, Bool.false_eq_true, if_false, revenantref34_Mint_Op.j3]
      by_cases k1 : kd = 1
      · subst k1
        rw [if_pos rfl]
        by_cases ka : a0 = 3
        · subst ka
          have hf : ((3 : Int) == 3) = true := rfl
          rw [hf]
          simp only [revenantref34_Mint_Op.j4, if_true]
          have h33 := h3 rfl
          rw [rlevel_l a3 (by omega) 3 a1 a2 a4 1 (bel b1 keys) 0 (a3 - 1).toNat k 1 (stp b1) (by omega) (by omega) (by omega), show OpT 1 b1 3 a3 keys = (1, bel b1 keys, 0, (lvl (a3 - 1).toNat a3 1 (stp b1)).1, (lvl (a3 - 1).toNat a3 1 (stp b1)).2) from (if_neg k8).trans ((if_neg k4).trans (if_pos ⟨rfl, rfl⟩))]
          rfl
        · rw [hdone _ _ _ (beq_eq_false_iff_ne.mpr ka), show OpT 1 b1 a0 a3 keys = (1, bel b1 keys, 0, 0, stp b1) from (if_neg k8).trans ((if_neg k4).trans (if_neg (fun h => ka h.2)))]
          rfl
      · rw [if_neg k1, hdone _ _ _ rfl, show OpT kd b1 a0 a3 keys = (kd, bel b1 keys, 0, 0, stp b1) from (if_neg k8).trans ((if_neg k4).trans (if_neg (fun h => k1 h.1)))]
        rfl
    dsimp only
    rw [if_neg (by omega)]
    have : (kd == 5) = false := beq_eq_false_iff_ne.mpr (by omega)
    rw [this]
    exact hj2
theorem rop34_f {k : Nat} (hk : 1200 ≤ k) (b : BitVec 64) (a0 a1 a2 a3 a4 keys : Int) (hc : CheckV a0 a1 a2 a3 a4 = 0) (h0 : 1 ≤ keys) (h1 : keys ≤ 2147483648) :
    revenantref34_Mint_Op.f k (I b) a0 a1 a2 a3 a4 keys = some (Op5 (OpS b a0 a3 keys)) := by
  obtain ⟨k, rfl⟩ : ∃ m, k = m + 1 := ⟨k - 1, by omega⟩
  unfold revenantref34_Mint_Op.f
  rw [rcheck_f (by omega), hc, bsome, if_pos rfl, if_neg (by omega), decide_eq_false (by omega)]
  simp only [revenantref34_Mint_Op.j0, Bool.false_eq_true, if_false]
  rw [rbelow_f b (by decide) (by decide), bsome]
  dsimp only
  have r4 := bel_range (stp b) (n := 4) (by decide) (by decide)
  have r3 := bel_range (stp b) (n := 3) (by decide) (by decide)
  by_cases hz : bel b 16 = 0
  · have e : OpS b a0 a3 keys = (8, 0, 0, 0, stp b) := by
      have : kindS b a0 = (8, stp b) := if_pos hz
      unfold OpS
      rw [this]
      exact if_pos rfl
    rw [if_pos hz, e]
    rfl
  · rw [if_neg hz]
    by_cases h2 : a0 = 2
    · have e : OpS b a0 a3 keys = OpT (4 + bel (stp b) 4) (stp (stp b)) a0 a3 keys := by
        have : kindS b a0 = (4 + bel (stp b) 4, stp (stp b)) := (if_neg hz).trans (if_pos h2)
        unfold OpS
        rw [this]
      rw [if_pos h2, rbelow_f (stp b) (by decide) (by decide), bsome, w64 (by omega) (by omega), e]
      exact rop_j1 (by omega) _ (by omega) _ _ _ _ _ _ _ hc h0 h1
    · have e : OpS b a0 a3 keys = OpT (1 + bel (stp b) 3) (stp (stp b)) a0 a3 keys := by
        have : kindS b a0 = (1 + bel (stp b) 3, stp (stp b)) := (if_neg hz).trans (if_neg h2)
        unfold OpS
        rw [this]
      rw [if_neg h2, rbelow_f (stp b) (by decide) (by decide), bsome, w64 (by omega) (by omega), e]
      exact rop_j1 (by omega) _ (by omega) _ _ _ _ _ _ _ hc h0 h1
theorem rop34_no {k : Nat} (hk : 10 ≤ k) (s : Int) (a0 a1 a2 a3 a4 keys : Int) (h : ¬ (CheckV a0 a1 a2 a3 a4 = 0 ∧ 1 ≤ keys ∧ keys ≤ 2147483648)) :
    revenantref34_Mint_Op.f k s a0 a1 a2 a3 a4 keys = some (0, 0, 0, 0, s) := by
  obtain ⟨k, rfl⟩ : ∃ m, k = m + 3 := ⟨k - 3, by omega⟩
  have hj : revenantref34_Mint_Op.j0 (k + 3) keys true s a0 a1 a2 a3 a4 0 0 0 0 = some (0, 0, 0, 0, s) := by simp only [revenantref34_Mint_Op.j0, if_true]
  unfold revenantref34_Mint_Op.f
  rw [rcheck_f (by omega), bsome]
  by_cases hc : CheckV a0 a1 a2 a3 a4 = 0
  · rw [if_pos hc]
    by_cases h0 : keys < 1
    · rw [if_pos h0, hj]
    · rw [if_neg h0, decide_eq_true (by omega), hj]
  · rw [if_neg hc, hj]
/-- Picks, in runs. -/
def pk (th n run : Int) : Nat → List Int → BitVec 64 → List Int × BitVec 64
  | 0, out, b => (out, b)
  | q + 1, out, b => if (out.length : Int) < n then pk th n run q (out ++ List.replicate (min (1 + bel (stp b) run) (n - out.length)).toNat (bel b th)) (stp (stp b)) else (out, b)
theorem ml1 (th n run t : Int) (x44 : Int) (h44 : x44 ≤ 1000) : ∀ (m k : Nat) (out : List Int) (i s : Int), 0 ≤ i → i + m = x44 → out.length + m ≤ 1000000 → mint_Mint_Picks.l1 (k + m + 1) th n run out t x44 i s = mint_Mint_Picks.l0 k th n run (out ++ List.replicate m t) s := by
  intro m
  induction m with
  | zero =>
    intro k out i s h0 hi hl
    simp only [mint_Mint_Picks.l1]
    rw [if_neg (by omega)]
    simp
  | succ m ih =>
    intro k out i s h0 hi hl
    obtain ⟨K, hK⟩ : ∃ K, K = k + m + 1 := ⟨_, rfl⟩
    rw [show k + (m + 1) + 1 = K + 1 by omega]
    simp only [mint_Mint_Picks.l1]
    rw [if_pos (by omega), if_pos (by omega), w64 (by omega) (by omega), hK, ih k (out ++ [t]) (i + 1) s (by omega) (by omega) (by rw [List.length_append, List.length_singleton]; omega), List.append_assoc, List.replicate_succ]
    rfl
theorem rl1 (th n run t x11 : Int) (hn : n ≤ 1000) (h11 : x11 ≤ 2147483648) : ∀ (m k : Nat) (out : List Int) (i s : Int), 0 ≤ i → (m : Int) = min (x11 - i) (n - out.length) → out.length ≤ 1000000 → revenantref34_Mint_Picks.l1 (k + m + 1) th n run out t x11 i s = revenantref34_Mint_Picks.l0 k th n run (out ++ List.replicate m t) s := by
  intro m
  induction m with
  | zero =>
    intro k out i s h0 hi hl
    simp only [revenantref34_Mint_Picks.l1]
    by_cases h : i < x11
    · rw [if_pos h, if_neg (by omega)]
      simp
    · rw [if_neg h]
      simp
  | succ m ih =>
    intro k out i s h0 hi hl
    obtain ⟨K, hK⟩ : ∃ K, K = k + m + 1 := ⟨_, rfl⟩
    rw [show k + (m + 1) + 1 = K + 1 by omega]
    simp only [revenantref34_Mint_Picks.l1]
    rw [if_pos (by omega), if_pos (by omega), if_pos (by omega), w64 (by omega) (by omega), hK, ih k (out ++ [t]) (i + 1) s (by omega) (by rw [List.length_append, List.length_singleton]; omega) (by rw [List.length_append, List.length_singleton]; omega), List.append_assoc, List.replicate_succ]
    rfl
theorem picks_l (th n run : Int) (t0 : 1 ≤ th) (t1 : th ≤ 64) (n1 : n ≤ 1000) (r0 : 1 ≤ run) (r1 : run ≤ 2147483648) : ∀ (q k : Nat) (out : List Int) (b : BitVec 64), n - out.length ≤ q → out.length ≤ 1000 → 3 * q + 10 ≤ k →
    mint_Mint_Picks.l0 k th n run out (I b) = some ((pk th n run q out b).1, I (pk th n run q out b).2) ∧ revenantref34_Mint_Picks.l0 k th n run out (I b) = some ((pk th n run q out b).1, I (pk th n run q out b).2) := by
  intro q
  induction q using Nat.strongRecOn with
  | ind q ih =>
    intro k out b hq hl hk
    obtain ⟨k, rfl⟩ : ∃ m, k = m + 1 := ⟨k - 1, by omega⟩
    by_cases h : (out.length : Int) < n
    · obtain ⟨q, rfl⟩ : ∃ m, q = m + 1 := ⟨q - 1, by omega⟩
      have hr := bel_range (stp b) r0 r1
      obtain ⟨m, hm⟩ : ∃ m : Nat, (m : Int) = min (1 + bel (stp b) run) (n - out.length) := ⟨(min (1 + bel (stp b) run) (n - out.length)).toNat, by omega⟩
      have hm1 : 1 ≤ m := by omega
      have ep : pk th n run (q + 1) out b = pk th n run q (out ++ List.replicate m (bel b th)) (stp (stp b)) := by
        show (if (out.length : Int) < n then _ else _) = _
        rw [if_pos h, ← hm, Int.toNat_natCast]
      have hmx : ∀ a c : Int, mn a c = min a c := fun a c => by unfold mn; omega
      have hlen : (out ++ List.replicate m (bel b th)).length = out.length + m := by rw [List.length_append, List.length_replicate]
      obtain ⟨k2, hk2⟩ : ∃ k2, k = k2 + m + 1 ∧ 3 * (q + 1 - m) + 10 ≤ k2 := ⟨k - m - 1, by omega, by omega⟩
      have hpk : pk th n run q (out ++ List.replicate m (bel b th)) (stp (stp b)) = pk th n run (q + 1 - m) (out ++ List.replicate m (bel b th)) (stp (stp b)) := by
        have : ∀ (q1 q2 : Nat) (o : List Int) (c : BitVec 64), n - o.length ≤ q1 → n - o.length ≤ q2 → pk th n run q1 o c = pk th n run q2 o c := by
          intro q1
          induction q1 with
          | zero =>
            intro q2 o c h1 h2
            cases q2 with
            | zero => rfl
            | succ q2 =>
              show (o, c) = (if (o.length : Int) < n then _ else _)
              rw [if_neg (by omega)]
          | succ q1 ih1 =>
            intro q2 o c h1 h2
            cases q2 with
            | zero =>
              show (if (o.length : Int) < n then _ else _) = (o, c)
              rw [if_neg (by omega)]
            | succ q2 =>
              show (if (o.length : Int) < n then _ else _) = (if (o.length : Int) < n then _ else _)
              by_cases ho : (o.length : Int) < n
              · have hrr := bel_range (stp c) r0 r1
                rw [if_pos ho, if_pos ho]
                exact ih1 q2 _ _ (by rw [List.length_append, List.length_replicate]; omega) (by rw [List.length_append, List.length_replicate]; omega)
              · rw [if_neg ho, if_neg ho]
        exact this _ _ _ _ (by rw [hlen]; omega) (by rw [hlen]; omega)
      have hih := ih (q + 1 - m) (by omega) k2 (out ++ List.replicate m (bel b th)) (stp (stp b)) (by rw [hlen]; omega) (by rw [hlen]; omega) hk2.2
      rw [ep, hpk]
      constructor
      · simp only [mint_Mint_Picks.l0]
        rw [if_pos h, below_f b t0 (by omega), bsome, below_f (stp b) r0 r1, bsome, w64 (by omega) (by omega), w64 (by omega) (by omega), hmx, ← hm, hk2.1, ml1 th n run (bel b th) m (by omega) m k2 out 0 (I (stp (stp b))) (by omega) (by omega) (by omega)]
        exact hih.1
      · simp only [revenantref34_Mint_Picks.l0]
        rw [if_pos h, rbelow_f b t0 (by omega), bsome, rbelow_f (stp b) r0 r1, bsome, w64 (by omega) (by omega), hk2.1, rl1 th n run (bel b th) (1 + bel (stp b) run) n1 (by omega) m k2 out 0 (I (stp (stp b))) (by omega) (by rw [Int.sub_zero]; exact hm) (by omega)]
        exact hih.2
    · have ep : pk th n run q out b = (out, b) := by
        cases q with
        | zero => rfl
        | succ q =>
          show (if (out.length : Int) < n then _ else _) = _
          rw [if_neg h]
      rw [ep]
      simp only [mint_Mint_Picks.l0, revenantref34_Mint_Picks.l0]
      rw [if_neg h, if_neg h]
      exact ⟨rfl, rfl⟩
/-- Both draw the same picks. -/
theorem picks_both (b : BitVec 64) (th n run : Int) (hn : n ≤ 499) : ∃ (l : List Int) (b' : BitVec 64), l.length ≤ 499 ∧ mint_Mint_Picks.f 3000 (I b) th n run = some (l, I b') ∧ revenantref34_Mint_Picks.f 3000 (I b) th n run = some (l, I b') := by
  obtain ⟨K, hK⟩ : ∃ K, 3000 = K + 1 := ⟨2999, rfl⟩
  have hK2 : 2999 ≤ K := by omega
  rw [hK]
  clear hK
  have mt : mint_Mint_Picks.j0 (K + 1) th n run [] true (I b) = some ([], I b) := by simp only [mint_Mint_Picks.j0, if_true]
  have rt : revenantref34_Mint_Picks.j0 (K + 1) th n run [] true (I b) = some ([], I b) := by simp only [revenantref34_Mint_Picks.j0, if_true]
  unfold mint_Mint_Picks.f revenantref34_Mint_Picks.f mint_isRange.f
  rw [bsome]
  by_cases h1 : th ≥ 1
  · rw [if_pos h1, bsome, if_neg (show ¬ th < 1 by omega)]
    by_cases h2 : th ≤ 64
    · rw [decide_eq_true h2, if_pos rfl, if_neg (show ¬ th > 64 by omega)]
      by_cases h3 : n ≥ 0
      · rw [if_pos h3, bsome, decide_eq_true (show n ≤ 262144 by omega), if_pos rfl, if_neg (show ¬ n < 0 by omega), if_neg (show ¬ n > 262144 by omega)]
        by_cases h4 : run ≥ 1
        · rw [if_pos h4, bsome, if_neg (show ¬ run < 1 by omega)]
          by_cases h5 : run ≤ 2147483648
          · rw [decide_eq_true h5, decide_eq_false (show ¬ run > 2147483648 by omega)]
            simp only [mint_Mint_Picks.j0, revenantref34_Mint_Picks.j0, Bool.not_true, Bool.false_eq_true, if_false]
            obtain ⟨e1, e2⟩ := picks_l th n run h1 h2 (by omega) h4 h5 n.toNat K [] b (by simp; omega) (by simp) (by omega)
            have hlen : ∀ (q : Nat) (o : List Int) (c : BitVec 64), o.length ≤ 499 → (pk th n run q o c).1.length ≤ 499 := by
              intro q
              induction q with
              | zero => intro o c h; exact h
              | succ q ih =>
                intro o c h
                show (if (o.length : Int) < n then pk th n run q _ _ else (o, c)).1.length ≤ 499
                have hrr := bel_range (stp c) h4 h5
                split
                · exact ih _ _ (by rw [List.length_append, List.length_replicate]; omega)
                · exact h
            exact ⟨_, _, hlen _ _ _ (by simp), e1, e2⟩
          · rw [decide_eq_false h5, decide_eq_true (show run > 2147483648 by omega)]
            exact ⟨[], b, by simp, mt, rt⟩
        · rw [if_neg h4, bsome, if_pos (show run < 1 by omega)]
          exact ⟨[], b, by simp, mt, rt⟩
      · rw [if_neg h3, bsome, if_neg (by decide), if_pos (show n < 0 by omega)]
        exact ⟨[], b, by simp, mt, rt⟩
    · rw [decide_eq_false h2, if_neg (by decide), if_pos (show th > 64 by omega)]
      exact ⟨[], b, by simp, mt, rt⟩
  · rw [if_neg h1, bsome, if_neg (by decide), if_pos (show th < 1 by omega)]
    exact ⟨[], b, by simp, mt, rt⟩
end Go.Proofs.Ytcphmelmieedfaa.PMintScripts

namespace Go.Proofs.Ytcphmelmieedfaa.PMintScripts
open Go Go.RowKit Go.Proofs.YtcphmelmieedfaaW.PrintWords Go.Proofs.YtcphmelmieedfaaW.PrintLast Go.Proofs.YtcphmelmieedfaaW.PrintMore
set_option linter.unusedVariables false
theorem S37.ext' {a b : S37} (h0 : a.f0 = b.f0) (h1 : a.f1 = b.f1) (h2 : a.f2 = b.f2) (h3 : a.f3 = b.f3) : a = b := by
  cases a; cases b; simp_all
instance : DecidableEq S37 := fun a b => if h : a.f0 = b.f0 ∧ a.f1 = b.f1 ∧ a.f2 = b.f2 ∧ a.f3 = b.f3 then isTrue (S37.ext' h.1 h.2.1 h.2.2.1 h.2.2.2) else isFalse (fun e => h (by subst e; exact ⟨rfl, rfl, rfl, rfl⟩))
theorem eqOp_l {xs ys : List S37} (hl : xs.length = ys.length) (hb : xs.length ≤ 9223372036854775807) : ∀ (d : Nat) (k : Nat) (i : Int), 0 ≤ i → i + d = xs.length → d < k → api_Op_44.l0 k xs ys xs.length i = some (decide (xs.drop i.toNat = ys.drop i.toNat)) := by
  intro d
  induction d with
  | zero =>
    intro k i h0 hi hk
    obtain ⟨k, rfl⟩ : ∃ m, k = m + 1 := ⟨k - 1, by omega⟩
    simp only [api_Op_44.l0]
    rw [if_neg (by omega), List.drop_of_length_le (by omega), List.drop_of_length_le (by omega)]
    simp
  | succ d ih =>
    intro k i h0 hi hk
    obtain ⟨k, rfl⟩ : ∃ m, k = m + 1 := ⟨k - 1, by omega⟩
    have hx : xs.drop i.toNat = rd_T37 xs i :: xs.drop (i + 1).toNat := by
      have h : i.toNat < xs.length := by omega
      rw [List.drop_eq_getElem_cons h]
      congr 1
      · simp [rd_T37, h]
      · congr 1; omega
    have hy : ys.drop i.toNat = rd_T37 ys i :: ys.drop (i + 1).toNat := by
      have h : i.toNat < ys.length := by omega
      rw [List.drop_eq_getElem_cons h]
      congr 1
      · simp [rd_T37, h]
      · congr 1; omega
    have hw : wrap64 (i + 1) = i + 1 := by unfold wrap64; omega
    simp only [api_Op_44.l0]
    rw [if_pos (by omega), if_pos h0, if_pos (by omega), if_pos (by omega), hx, hy]
    by_cases he : rd_T37 xs i = rd_T37 ys i
    · rw [if_neg (by rw [he]; simp), hw, ih k (i + 1) (by omega) (by omega) (by omega)]
      congr 1
      simp [he]
    · rw [if_pos ?_]
      · congr 1
        symm
        simp [he]
      · simp only [Bool.or_eq_true, Bool.not_eq_true', beq_eq_false_iff_ne, ne_eq]
        by_cases e0 : (rd_T37 xs i).f0 = (rd_T37 ys i).f0
        · by_cases e1 : (rd_T37 xs i).f1 = (rd_T37 ys i).f1
          · by_cases e2 : (rd_T37 xs i).f2 = (rd_T37 ys i).f2
            · exact .inr (.inr (.inr (fun e3 => he (S37.ext' e0 e1 e2 e3))))
            · exact .inr (.inr (.inl e2))
          · exact .inr (.inl e1)
        · exact .inl e0
theorem eqOp_f {xs ys : List S37} (hb : xs.length ≤ 9223372036854775807) : api_Op_44.f (xs.length + 2) xs ys = some (decide (xs = ys)) := by
  unfold api_Op_44.f
  by_cases hl : (xs.length : Int) = ys.length
  · rw [if_pos hl, eqOp_l (by omega) hb xs.length _ 0 (by omega) (by omega) (by omega)]
    rfl
  · rw [if_neg hl]
    congr 1
    symm
    rw [decide_eq_false_iff_not]
    intro e
    exact hl (by rw [e])
theorem eqInt_l {xs ys : List Int} (hl : xs.length = ys.length) (hb : xs.length ≤ 9223372036854775807) : ∀ (d : Nat) (k : Nat) (i : Int), 0 ≤ i → i + d = xs.length → d < k → slices_Equal_int_int.l0 k xs ys xs.length i = some (decide (xs.drop i.toNat = ys.drop i.toNat)) := by
  intro d
  induction d with
  | zero =>
    intro k i h0 hi hk
    obtain ⟨k, rfl⟩ : ∃ m, k = m + 1 := ⟨k - 1, by omega⟩
    simp only [slices_Equal_int_int.l0]
    rw [if_neg (by omega), List.drop_of_length_le (by omega), List.drop_of_length_le (by omega)]
    simp
  | succ d ih =>
    intro k i h0 hi hk
    obtain ⟨k, rfl⟩ : ∃ m, k = m + 1 := ⟨k - 1, by omega⟩
    have hx : xs.drop i.toNat = rd xs i :: xs.drop (i + 1).toNat := by
      have h : i.toNat < xs.length := by omega
      rw [List.drop_eq_getElem_cons h]
      congr 1
      · simp [rd, h]
      · congr 1; omega
    have hy : ys.drop i.toNat = rd ys i :: ys.drop (i + 1).toNat := by
      have h : i.toNat < ys.length := by omega
      rw [List.drop_eq_getElem_cons h]
      congr 1
      · simp [rd, h]
      · congr 1; omega
    have hw : wrap64 (i + 1) = i + 1 := by unfold wrap64; omega
    simp only [slices_Equal_int_int.l0]
    rw [if_pos (by omega), if_pos h0, if_pos (by omega), if_pos (by omega), hx, hy]
    by_cases he : rd xs i = rd ys i
    · rw [if_pos he, hw, ih k (i + 1) (by omega) (by omega) (by omega)]
      congr 1
      simp [he]
    · rw [if_neg he]
      congr 1
      symm
      simp [he]
theorem eqInt_f {xs ys : List Int} (hb : xs.length ≤ 9223372036854775807) : slices_Equal_int_int.f (xs.length + 2) xs ys = some (decide (xs = ys)) := by
  unfold slices_Equal_int_int.f
  by_cases hl : (xs.length : Int) = ys.length
  · rw [if_pos hl, eqInt_l (by omega) hb xs.length _ 0 (by omega) (by omega) (by omega)]
    rfl
  · rw [if_neg hl]
    congr 1
    symm
    rw [decide_eq_false_iff_not]
    intro e
    exact hl (by rw [e])
theorem drop_rdL (xs : List (List S37)) (i : Int) (h0 : 0 ≤ i) (h1 : i < xs.length) : xs.drop i.toNat = rd_L3 xs i :: xs.drop (i + 1).toNat := by
  have h : i.toNat < xs.length := by omega
  rw [List.drop_eq_getElem_cons h]
  congr 1
  · simp [rd_L3, h]
  · congr 1; omega
theorem drop_rd (xs : List Int) (i : Int) (h0 : 0 ≤ i) (h1 : i < xs.length) : xs.drop i.toNat = rd xs i :: xs.drop (i + 1).toNat := by
  have h : i.toNat < xs.length := by omega
  rw [List.drop_eq_getElem_cons h]
  congr 1
  · simp [rd, h]
  · congr 1; omega
end Go.Proofs.Ytcphmelmieedfaa.PMintScripts

namespace Go.Proofs.Ytcphmelmieedfaa.PMintScripts
open Go Go.RowKit Go.Proofs.YtcphmelmieedfaaW.PrintWords Go.Proofs.YtcphmelmieedfaaW.PrintLast Go.Proofs.YtcphmelmieedfaaW.PrintMore Go.Proofs.Ytcphmelmieedfaa.U
set_option linter.unusedVariables false
def opV1 (a d : Int) (o : S37) : Int := OpV a d o.f0 o.f1 o.f2 o.f3
def opsGo (a d t : Int) : List S37 → Int → Int × Int × Int
  | [], _ => (0, 0, 0)
  | o :: os, i => if opV1 a d o = 0 then opsGo a d t os (i + 1) else (opV1 a d o, t, i)
/-- What is wrong with a thread's ops. -/
def opsV (a d t : Int) (l : List S37) : Int × Int × Int := if 64 < l.length then (9, t, 0) else opsGo a d t l 0
def opssV (a d : Int) : List (List S37) → Int → Int × Int × Int
  | [], _ => (0, 0, 0)
  | l :: ls, i => if opsV a d i l = (0, 0, 0) then opssV a d ls (i + 1) else opsV a d i l
def idxN (m : Int) : List Int → Int → Int
  | [], _ => -1
  | p :: ps, i => if p < 0 ∨ m ≤ p then i else idxN m ps (i + 1)
theorem idxN_range (m : Int) : ∀ (ps : List Int) (i : Int), 0 ≤ i → idxN m ps i = -1 ∨ (0 ≤ idxN m ps i ∧ idxN m ps i < i + ps.length) := by
  intro ps
  induction ps with
  | nil => intro i hi; left; rfl
  | cons p ps ih =>
    intro i hi
    unfold idxN
    split
    · right; simp only [List.length_cons]; omega
    · have := ih (i + 1) (by omega)
      simp only [List.length_cons]
      omega
/-- What is wrong first with a script. -/
def scV (a b c d e : Int) (l5 : List (List S37)) (l6 : List Int) : Int × Int × Int :=
  if CheckV a b c d e ≠ 0 then (CheckV a b c d e, 0, 0)
  else if l5.length < 1 ∨ 64 < l5.length then (3, 0, 0)
  else if 262144 < l6.length then (9, 0, 0)
  else if opssV a d l5 0 ≠ (0, 0, 0) then opssV a d l5 0
  else if 0 ≤ idxN l5.length l6 0 then (3, 0, idxN l5.length l6 0) else (0, 0, 0)
theorem drop_rd37 (xs : List S37) (i : Int) (h0 : 0 ≤ i) (h1 : i < xs.length) : xs.drop i.toNat = rd_T37 xs i :: xs.drop (i + 1).toNat := by
  have h : i.toNat < xs.length := by omega
  rw [List.drop_eq_getElem_cons h]
  congr 1
  · simp [rd_T37, h]
  · congr 1; omega
theorem ops_l (a b c d e t : Int) (hc : CheckV a b c d e = 0) (l : List S37) (hl : l.length ≤ 64) : ∀ (q k : Nat) (i : Int), 0 ≤ i → i + q = l.length → q + 3 < k → script_ops.l0 k t l l.length i a b c d e = some (opsGo a d t (l.drop i.toNat) i) := by
  intro q
  induction q with
  | zero =>
    intro k i h0 hi hk
    obtain ⟨k, rfl⟩ : ∃ m, k = m + 1 := ⟨k - 1, by omega⟩
    simp only [script_ops.l0]
    rw [if_neg (by omega), List.drop_of_length_le (by omega)]
    rfl
  | succ q ih =>
    intro k i h0 hi hk
    obtain ⟨k, rfl⟩ : ∃ m, k = m + 1 := ⟨k - 1, by omega⟩
    have hw : wrap64 (i + 1) = i + 1 := by unfold wrap64; omega
    simp only [script_ops.l0]
    rw [if_pos (by omega), if_pos h0, if_pos (by omega), isOp_f (by omega), hc, if_pos rfl, bsome, drop_rd37 l i h0 (by omega), hw, ih k (i + 1) (by omega) (by omega) (by omega)]
    by_cases h : opV1 a d (rd_T37 l i) = 0
    · have h' := h
      unfold opV1 at h'
      rw [if_pos h']
      simp only [opsGo]
      rw [if_pos h]
    · have h' := h
      unfold opV1 at h'
      rw [if_neg h']
      simp only [opsGo]
      rw [if_neg h]
      rfl
theorem ops_f (a b c d e t : Int) (hc : CheckV a b c d e = 0) (l : List S37) : script_ops.f 100 a b c d e t l = some (opsV a d t l) := by
  unfold script_ops.f opsV
  by_cases hl : 64 < l.length
  · rw [if_pos (by omega), if_pos hl]
  · rw [if_neg (by omega), if_neg hl, ops_l a b c d e t hc l (by omega) l.length 100 0 (by omega) (by omega) (by omega)]
    rfl
theorem ops_some (a b c d e t : Int) (hc : CheckV a b c d e = 0) (l : List S37) : script_ops.f 100 a b c d e t l = some ((opsV a d t l).1, (opsV a d t l).2.1, (opsV a d t l).2.2) := ops_f a b c d e t hc l
end Go.Proofs.Ytcphmelmieedfaa.PMintScripts

