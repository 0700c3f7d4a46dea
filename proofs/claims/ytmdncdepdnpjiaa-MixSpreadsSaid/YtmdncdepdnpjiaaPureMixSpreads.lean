/-
Of every structure and row of keys: how many are at each root is the document's. No condition beyond the row's own.
-/
import Derived.Test.YtmdncdepdnpjiaaPMixSpreadsx4
import Derived.Test.YtmdncdepdnpjiaaWords
namespace Go.Proofs.Ytmdncdepdnpjiaa.PMixSpreads
open Go Go.RowKit Go.Proofs.YtmdncdepdnpjiaaW.PrintWords Go.Proofs.YtmdncdepdnpjiaaW.PrintLast Go.Proofs.YtmdncdepdnpjiaaW.PrintMore Go.Proofs.Ytmdncdepdnpjiaa.U
set_option linter.unusedVariables false
/-- The error of a structure. -/
def CheckV (a b c d e : Int) : Int :=
  if a < 1 ∨ 3 < a then 8
  else if b < 1 ∨ 8388607 < b ∨ e < 2 ∨ 1099511627775 < e ∨ (a = 2 ∧ (c < 1 ∨ 64 < c)) ∨ (a ≠ 2 ∧ c ≠ 0) ∨ (a = 3 ∧ (d < 1 ∨ 16 < d)) ∨ (a ≠ 3 ∧ d ≠ 1) then 3 else 0
theorem within_f (a b c : Int) : conf_within.f a b c = some (decide (b ≤ a ∧ a ≤ c)) := by
  unfold conf_within.f
  by_cases h : a ≥ b
  · rw [if_pos h]; simp [h]
  · rw [if_neg h]; simp; omega
theorem check_f {k : Nat} (hk : 1 ≤ k) (a b c d e : Int) : conf_Check.f k a b c d e = some (CheckV a b c d e) := by
  obtain ⟨k, rfl⟩ : ∃ m, k = m + 1 := ⟨k - 1, by omega⟩
  unfold conf_Check.f conf_sizes.f
  simp only [within_f]
  by_cases h1 : a = 1
  · subst h1
    simp only [if_true, Option.bind_some, conf_Check.j0, within_f, CheckV]
    grind
  · by_cases h2 : a = 2
    · subst h2
      simp only [if_true, Option.bind_some, conf_Check.j0, within_f, CheckV]
      grind
    · by_cases h3 : a = 3
      · subst h3
        simp only [if_true, Option.bind_some, conf_Check.j0, within_f, CheckV]
        grind
      · simp only [h1, h2, h3, if_false, Option.bind_some, Bool.false_eq_true, CheckV]
        rw [if_pos (by omega)]
theorem check_zero {a b c d e : Int} (h : CheckV a b c d e = 0) : (a = 1 ∨ a = 2 ∨ a = 3) ∧ 1 ≤ b ∧ b ≤ 8388607 ∧ 2 ≤ e ∧ e ≤ 1099511627775 ∧ (a = 2 → 1 ≤ c ∧ c ≤ 64) ∧ (a ≠ 2 → c = 0) ∧ (a = 3 → 1 ≤ d ∧ d ≤ 16) ∧ (a ≠ 3 → d = 1) := by
  unfold CheckV at h
  split at h
  · omega
  · split at h
    · omega
    · omega
theorem check_cases (a b c d e : Int) : CheckV a b c d e = 0 ∨ CheckV a b c d e = 3 ∨ CheckV a b c d e = 8 := by
  unfold CheckV
  split
  · omega
  · split <;> omega
end Go.Proofs.Ytmdncdepdnpjiaa.PMixSpreads
namespace Go.Proofs.Ytmdncdepdnpjiaa.U
/-- By itself, shifted down. -/
def turnD (w : BitVec 64) : BitVec 64 := w ^^^ (w >>> 33)
def c1 : BitVec 64 := B 18397679294719823053
def c2 : BitVec 64 := B 14181476777654086739
def mixB (w : BitVec 64) : BitVec 64 := turnD (turnD (turnD w * c1) * c2)
theorem c1_eq : B 18397679294719823053 = c1 := rfl
theorem c2_eq : B 14181476777654086739 = c2 := rfl
theorem turnD_turnD (w : BitVec 64) : turnD (turnD w) = w := by
  apply eq_of_bits
  intro i hi
  unfold turnD
  simp only [BitVec.getLsbD_xor, BitVec.getLsbD_ushiftRight]
  have h : w.getLsbD (33 + (33 + i)) = false := BitVec.getLsbD_of_ge _ _ (by omega)
  rw [h]
  cases w.getLsbD i <;> cases w.getLsbD (33 + i) <;> rfl
/-- The hash's number. -/
def buck (n : Nat) (w : BitVec 64) : Nat := (mixB w).toNat / 4294967296 * n / 4294967296
theorem buck_lt {n : Nat} (hn : 1 ≤ n) (w : BitVec 64) : buck n w < n := by
  unfold buck
  have h := (mixB w).isLt
  have h1 : (mixB w).toNat / 4294967296 < 4294967296 := by omega
  have h2 : (mixB w).toNat / 4294967296 * n < 4294967296 * n := (Nat.mul_lt_mul_right (by omega)).2 h1
  exact Nat.div_lt_of_lt_mul h2
end Go.Proofs.Ytmdncdepdnpjiaa.U
namespace Go.Proofs.Ytmdncdepdnpjiaa.PMixSpreads
open Go Go.RowKit Go.Proofs.YtmdncdepdnpjiaaW.PrintWords Go.Proofs.YtmdncdepdnpjiaaW.PrintLast Go.Proofs.YtmdncdepdnpjiaaW.PrintMore Go.Proofs.Ytmdncdepdnpjiaa.U
set_option linter.unusedVariables false
theorem B_div33 (b : BitVec 64) : B (I b / 8589934592) = b >>> 33 := by
  have h := I_ushr b 33
  have e : (2 : Int) ^ 33 = 8589934592 := by decide
  rw [e] at h
  rw [h, B_I]
theorem mturn_f (b : BitVec 64) : mix_turn.f (I b) = some (I (turnD b)) := by
  unfold mix_turn.f turnD
  rw [bitsU_xor, B_I, B_div33]
theorem mul_f (b : BitVec 64) (c : Int) : mix_turn.f (IntKind.u64.wrap (I b * c)) = some (I (turnD (b * B c))) := by
  rw [wrapU, B_mul, B_I, mturn_f]
theorem mix_fB (b : BitVec 64) : mix_Mix.f (I b) = some (I (mixB b)) := by
  unfold mix_Mix.f mixB
  rw [mturn_f]
  simp only [bsome]
  rw [mul_f (turnD b) 18397679294719823053, c1_eq]
  simp only [bsome]
  rw [mul_f, c2_eq]
  simp only [bsome]
theorem mix_f {x : Int} (h0 : 0 ≤ x) (h1 : x < 18446744073709551616) : mix_Mix.f x = some (I (mixB (B x))) := by
  have h := mix_fB (B x)
  rw [I_B_of h0 h1] at h
  exact h
theorem bucket_num {n : Int} (n0 : 1 ≤ n) (n1 : n ≤ 64) (b : BitVec 64) : wrap64 ((IntKind.u64.wrap ((I (mixB b) / 4294967296) * (IntKind.u64.wrap n))) / 4294967296) = (buck n.toNat b : Int) := by
  have h0 := I_nonneg (mixB b)
  have h1 := I_lt (mixB b)
  have hb := buck_lt (n := n.toNat) (by omega) b
  have hn : IntKind.u64.wrap n = n := by rw [wrapU_mod]; omega
  rw [hn]
  have hd : I (mixB b) / 4294967296 < 4294967296 := by omega
  have hd0 : 0 ≤ I (mixB b) / 4294967296 := by omega
  have hm : 0 ≤ (I (mixB b) / 4294967296) * n ∧ (I (mixB b) / 4294967296) * n < 18446744073709551616 := by
    constructor
    · exact Int.mul_nonneg hd0 (by omega)
    · have : (I (mixB b) / 4294967296) * n ≤ 4294967296 * n := Int.mul_le_mul_of_nonneg_right (by omega) (by omega)
      omega
  rw [wrapU_mod, Int.emod_eq_of_lt hm.1 hm.2]
  have e : (buck n.toNat b : Int) = I (mixB b) / 4294967296 * n / 4294967296 := by
    unfold buck I
    have en : (n.toNat : Int) = n := Int.toNat_of_nonneg (by omega)
    rw [Int.natCast_ediv, Int.natCast_mul, Int.natCast_ediv, en]
    rfl
  rw [← e, w64 (by omega) (by omega)]
theorem bucket_yes {k : Nat} (hk : 1 ≤ k) {b c d e x : Int} (hc : CheckV 2 b c d e = 0) (h0 : 0 ≤ x) (h1 : x < 18446744073709551616) : mix_Bucket.f k 2 b c d e x = some (buck c.toNat (B x) : Int) := by
  have z := check_zero hc
  unfold mix_Bucket.f
  rw [check_f hk, hc, mix_f h0 h1]
  simp only [bsome, if_true]
  rw [bucket_num (by omega) (by omega)]
theorem bucket_no {k : Nat} (hk : 1 ≤ k) {a b c d e x : Int} (hc : ¬ (CheckV a b c d e = 0 ∧ a = 2)) : mix_Bucket.f k a b c d e x = some 0 := by
  unfold mix_Bucket.f
  rw [check_f hk]
  simp only [bsome]
  by_cases h : CheckV a b c d e = 0
  · rw [if_pos h, if_neg (fun h2 => hc ⟨h, h2⟩)]
  · rw [if_neg h]
end Go.Proofs.Ytmdncdepdnpjiaa.PMixSpreads
namespace Go.Proofs.Ytmdncdepdnpjiaa.PMixSpreads
open Go Go.RowKit Go.Proofs.YtmdncdepdnpjiaaW.PrintWords Go.Proofs.YtmdncdepdnpjiaaW.PrintLast Go.Proofs.YtmdncdepdnpjiaaW.PrintMore Go.Proofs.Ytmdncdepdnpjiaa.U
set_option linter.unusedVariables false
theorem rcheck_f {k : Nat} (hk : 3 ≤ k) (a b c d e : Int) : revenantref03_Check.f k a b c d e = some (CheckV a b c d e) := by
  obtain ⟨k, rfl⟩ : ∃ m, k = m + 3 := ⟨k - 3, by omega⟩
  unfold revenantref03_Check.f CheckV
  simp only [revenantref03_Check.j0, revenantref03_Check.j1, revenantref03_Check.j2]
  grind
end Go.Proofs.Ytmdncdepdnpjiaa.PMixSpreads
namespace Go.Proofs.Ytmdncdepdnpjiaa.PMixSpreads
open Go Go.RowKit Go.Proofs.YtmdncdepdnpjiaaW.PrintWords Go.Proofs.YtmdncdepdnpjiaaW.PrintLast Go.Proofs.YtmdncdepdnpjiaaW.PrintMore Go.Proofs.Ytmdncdepdnpjiaa.U
set_option linter.unusedVariables false
theorem rturn_f (b : BitVec 64) : revenantref12_turn.f (I b) = some (I (turnD b)) := by
  have h0 := I_nonneg b
  have h1 := I_lt b
  unfold revenantref12_turn.f turnD
  rw [Int.tdiv_eq_ediv_of_nonneg h0, bitsU_xor, B_I, B_wrapU, B_div33]
theorem rmix_fB (b : BitVec 64) : revenantref12_Mix.f (I b) = some (I (mixB b)) := by
  unfold revenantref12_Mix.f mixB
  rw [rturn_f]
  simp only [bsome]
  rw [wrapU, B_mul, B_I, c1_eq, rturn_f]
  simp only [bsome]
  rw [wrapU, B_mul, B_I, c2_eq, rturn_f]
  simp only [bsome]
theorem rmix_f {x : Int} (h0 : 0 ≤ x) (h1 : x < 18446744073709551616) : revenantref12_Mix.f x = some (I (mixB (B x))) := by
  have h := rmix_fB (B x)
  rw [I_B_of h0 h1] at h
  exact h
theorem rbucket_f {n x : Int} (n0 : 1 ≤ n) (n1 : n ≤ 64) (h0 : 0 ≤ x) (h1 : x < 18446744073709551616) : revenantref12_Bucket.f n x = some (buck n.toNat (B x) : Int) := by
  have g0 := I_nonneg (mixB (B x))
  have g1 := I_lt (mixB (B x))
  unfold revenantref12_Bucket.f
  rw [rmix_f h0 h1]
  simp only [bsome]
  have e1 : IntKind.u64.wrap (Int.tdiv (I (mixB (B x))) 4294967296) = I (mixB (B x)) / 4294967296 := by
    rw [Int.tdiv_eq_ediv_of_nonneg g0, wrapU_mod]; omega
  have e2 : ∀ y : Int, IntKind.u64.wrap (Int.tdiv (IntKind.u64.wrap y) 4294967296) = IntKind.u64.wrap y / 4294967296 := by
    intro y
    have h : 0 ≤ IntKind.u64.wrap y ∧ IntKind.u64.wrap y < 18446744073709551616 := by rw [wrapU_mod]; omega
    rw [Int.tdiv_eq_ediv_of_nonneg h.1, wrapU_mod (IntKind.u64.wrap y / 4294967296)]; omega
  rw [e1, e2, bucket_num n0 n1]
/-- Of numbers of no hash map the answer is some number, too. -/
theorem rbucket_some (n : Int) {x : Int} (h0 : 0 ≤ x) (h1 : x < 18446744073709551616) : ∃ r, revenantref12_Bucket.f n x = some r := by
  unfold revenantref12_Bucket.f
  rw [rmix_f h0 h1]
  exact ⟨_, rfl⟩
end Go.Proofs.Ytmdncdepdnpjiaa.PMixSpreads
namespace Go.Proofs.Ytmdncdepdnpjiaa.PMixSpreads
open Go Go.RowKit Go.Proofs.YtmdncdepdnpjiaaW.PrintWords Go.Proofs.YtmdncdepdnpjiaaW.PrintLast Go.Proofs.YtmdncdepdnpjiaaW.PrintMore Go.Proofs.Ytmdncdepdnpjiaa.U
/-- How many of the first i keys are at each of n roots. -/
def tab (bk : Int → Nat) (keys : List Int) (n i : Nat) : List Int := (List.range n).map fun j => (((keys.take i).countP fun key => bk key == j : Nat) : Int)
theorem tab_len (bk : Int → Nat) (keys : List Int) (n i : Nat) : (tab bk keys n i).length = n := by simp [tab]
theorem tab_get (bk : Int → Nat) (keys : List Int) (n i j : Nat) (h : j < n) : rd (tab bk keys n i) (j : Int) = (((keys.take i).countP fun key => bk key == j : Nat) : Int) := by
  simp [rd, tab, h]
theorem take_succ' (keys : List Int) (i : Nat) (h : i < keys.length) : keys.take (i + 1) = keys.take i ++ [rd keys (i : Int)] := by
  rw [List.take_succ_eq_append_getElem h]
  simp [rd, h]
theorem tab_next (bk : Int → Nat) (keys : List Int) (n i : Nat) (h : i < keys.length) (hb : bk (rd keys (i : Int)) < n) :
    (tab bk keys n i).set (bk (rd keys (i : Int))) (rd (tab bk keys n i) ((bk (rd keys (i : Int)) : Nat) : Int) + 1) = tab bk keys n (i + 1) := by
  rw [tab_get _ _ _ _ _ hb]
  apply List.ext_getElem
  · simp [tab_len]
  · intro j h1 h2
    have hj : j < n := by simpa [tab_len] using h2
    rw [List.getElem_set]
    simp only [tab, List.getElem_map, List.getElem_range, take_succ' keys i h, List.countP_append, List.countP_singleton]
    by_cases e : bk (rd keys (i : Int)) = j
    · simp [e]
    · simp [e]
theorem spread_l {bk : Int → Nat} {keys : List Int} {n : Nat} {a b c d e : Int} (hl : keys.length ≤ 100) (hn : n ≤ 64)
    (hb : ∀ (k : Nat) (key : Int), 1 ≤ k → key ∈ keys → mix_Bucket.f k a b c d e key = some (bk key : Int)) (hlt : n = 0 ∨ ∀ key, key ∈ keys → bk key < n) (t : Nat) : ∀ (k i : Nat), i ≤ keys.length → keys.length - i = t → t + 1 < k →
    mix_Spread.l0 k (tab bk keys n i) keys (keys.length : Int) (i : Int) a b c d e = some (tab bk keys n keys.length) := by
  induction t with
  | zero =>
    intro k i h0 h1 hk
    obtain ⟨k, rfl⟩ : ∃ m, k = m + 1 := ⟨k - 1, by omega⟩
    simp only [mix_Spread.l0]
    have : i = keys.length := by omega
    subst this
    rw [if_neg (by omega)]
  | succ t ih =>
    intro k i h0 h1 hk
    obtain ⟨k, rfl⟩ : ∃ m, k = m + 1 := ⟨k - 1, by omega⟩
    simp only [mix_Spread.l0]
    have hi : i < keys.length := by omega
    have hm : rd keys (i : Int) ∈ keys := by
      simp [rd, hi]
    have w : wrap64 ((i : Int) + 1) = ((i + 1 : Nat) : Int) := by rw [w64 (by omega) (by omega)]; omega
    rw [if_pos (by omega), if_pos (by omega), if_pos (by omega), tab_len]
    by_cases hz : n = 0
    · subst hz
      rw [if_neg (by omega), w]
      have e0 : tab bk keys 0 i = tab bk keys 0 (i + 1) := rfl
      rw [e0]
      exact ih k (i + 1) (by omega) (by omega) (by omega)
    · have hbl := (hlt.resolve_left hz) _ hm
      rw [if_pos (by omega), hb k _ (by omega) hm]
      simp only [bsome]
      rw [if_pos (by omega), if_pos (by omega)]
      have hc : (((keys.take i).countP fun key => bk key == bk (rd keys (i : Int)) : Nat) : Int) ≤ 100 := by
        have := List.countP_le_length (p := fun key => bk key == bk (rd keys (i : Int))) (l := keys.take i)
        rw [List.length_take] at this
        omega
      have e1 := tab_get bk keys n i (bk (rd keys (i : Int))) hbl
      have e2 : wrap64 (rd (tab bk keys n i) ((bk (rd keys (i : Int)) : Nat) : Int) + 1) = rd (tab bk keys n i) ((bk (rd keys (i : Int)) : Nat) : Int) + 1 := by
        rw [w64] <;> omega
      rw [e2, w]
      have e3 := tab_next bk keys n i hi hbl
      rw [Int.toNat_natCast, e3]
      exact ih k (i + 1) (by omega) (by omega) (by omega)
theorem law_l1 {bk : Int → Nat} {keys : List Int} {n : Nat} {a b c d e : Int} (hl : keys.length ≤ 100) (hn : n ≤ 64)
    (hb : ∀ key, key ∈ keys → (a = 2 → revenantref12_Bucket.f c key = some (bk key : Int)) ∧ (a ≠ 2 → bk key = 0)) (j : Nat) (hj : j < n) (t : Nat) : ∀ (k i : Nat), i ≤ keys.length → keys.length - i = t → t + 1 < k →
    revenantlaw12_MixSpreads.l1 k keys (tab bk keys n keys.length) (j : Int) (((keys.take i).countP fun key => bk key == j : Nat) : Int) (i : Int) a b c d e = revenantlaw12_MixSpreads.l0 (k - t - 1) keys (tab bk keys n keys.length) ((j + 1 : Nat) : Int) a b c d e := by
  induction t with
  | zero =>
    intro k i h0 h1 hk
    obtain ⟨k, rfl⟩ : ∃ m, k = m + 1 := ⟨k - 1, by omega⟩
    simp only [revenantlaw12_MixSpreads.l1]
    have : i = keys.length := by omega
    subst this
    rw [if_neg (by omega), if_pos (by omega), tab_len, if_pos (by omega), tab_get _ _ _ _ _ hj, if_pos rfl, w64 (by omega) (by omega)]
    simp
  | succ t ih =>
    intro k i h0 h1 hk
    obtain ⟨k, rfl⟩ : ∃ m, k = m + 1 := ⟨k - 1, by omega⟩
    have hi : i < keys.length := by omega
    have hm : rd keys (i : Int) ∈ keys := by
      simp [rd, hi]
    obtain ⟨hb1, hb2⟩ := hb _ hm
    have w : wrap64 ((i : Int) + 1) = ((i + 1 : Nat) : Int) := by rw [w64 (by omega) (by omega)]; omega
    have hc : (((keys.take i).countP fun key => bk key == j : Nat) : Int) ≤ 100 := by
      have := List.countP_le_length (p := fun key => bk key == j) (l := keys.take i)
      rw [List.length_take] at this
      omega
    have ec : (keys.take (i + 1)).countP (fun key => bk key == j) = (keys.take i).countP (fun key => bk key == j) + if bk (rd keys (i : Int)) = j then 1 else 0 := by
      rw [take_succ' keys i hi, List.countP_append, List.countP_singleton]
      by_cases e : bk (rd keys (i : Int)) = j <;> simp [e]
    have w2 : wrap64 ((((keys.take i).countP fun key => bk key == j : Nat) : Int) + 1) = (((keys.take i).countP (fun key => bk key == j) + 1 : Nat) : Int) := by
      rw [w64 (by omega) (by omega)]; omega
    have nx := ih k (i + 1) (by omega) (by omega) (by omega)
    have ek : k + 1 - (t + 1) - 1 = k - t - 1 := by omega
    rw [ek, ← nx, ec]
    simp only [revenantlaw12_MixSpreads.l1]
    rw [if_pos (by omega), w, w2]
    by_cases h2 : a = 2
    · rw [if_pos h2, if_pos (by omega), hb1 h2]
      simp only [bsome]
      by_cases e : bk (rd keys (i : Int)) = j
      · rw [if_pos (by omega), if_pos e]
      · rw [if_neg (by omega), if_neg e]
        rfl
    · rw [if_neg h2]
      have z := hb2 h2
      rw [z]
      by_cases e : 0 = j
      · rw [if_pos (by omega), if_pos e]
      · rw [if_neg (by omega), if_neg e]
        rfl
theorem law_l0 {bk : Int → Nat} {keys : List Int} {n : Nat} {a b c d e : Int} (hl : keys.length ≤ 100) (hn : n ≤ 64)
    (hb : ∀ key, key ∈ keys → (a = 2 → revenantref12_Bucket.f c key = some (bk key : Int)) ∧ (a ≠ 2 → bk key = 0)) (t : Nat) : ∀ (k j : Nat), j ≤ n → n - j = t → t * 103 < k →
    revenantlaw12_MixSpreads.l0 k keys (tab bk keys n keys.length) (j : Int) a b c d e = some true := by
  induction t with
  | zero =>
    intro k j h0 h1 hk
    obtain ⟨k, rfl⟩ : ∃ m, k = m + 1 := ⟨k - 1, by omega⟩
    simp only [revenantlaw12_MixSpreads.l0]
    rw [tab_len, if_neg (by omega)]
  | succ t ih =>
    intro k j h0 h1 hk
    obtain ⟨k, rfl⟩ : ∃ m, k = m + 1 := ⟨k - 1, by omega⟩
    simp only [revenantlaw12_MixSpreads.l0]
    rw [tab_len, if_pos (by omega)]
    have h := law_l1 (b := b) (d := d) (e := e) hl hn hb j (by omega) keys.length k 0 (by omega) (by omega) (by omega)
    simp only [List.take_zero, List.countP_nil] at h
    have e0 : ((0 : Nat) : Int) = 0 := rfl
    rw [e0] at h
    rw [h]
    exact ih _ (j + 1) (by omega) (by omega) (by omega)
theorem awake_big : revenantlaw12_awake.f 9000 = some true := by decide +kernel
theorem roots_f {k : Nat} (hk : 1 ≤ k) (a b c d e : Int) : conf_Roots.f k a b c d e = some (if CheckV a b c d e = 0 then (if a = 2 then c else d) else 0) := by
  unfold conf_Roots.f
  rw [check_f hk]
  simp only [bsome]
  split
  · split <;> rfl
  · rfl
theorem rroots_f {k : Nat} (hk : 3 ≤ k) (a b c d e : Int) : revenantref03_Roots.f k a b c d e = some (if CheckV a b c d e = 0 then (if a = 2 then c else d) else 0) := by
  unfold revenantref03_Roots.f
  rw [rcheck_f hk]
  simp only [bsome]
  split
  · split <;> rfl
  · rfl
theorem tab_zero (bk : Int → Nat) (keys : List Int) (n : Nat) : tab bk keys n 0 = List.replicate n 0 := by
  apply List.ext_getElem
  · simp [tab_len]
  · intro j h1 h2
    simp [tab]
theorem spreads (a b c d e : Int) (keys : List Int) (hk : ∀ x ∈ keys, (Lit.int .u64 x).wf = true) : revenantlaw12_MixSpreads.f 9000 a b c d e keys = some true := by
  unfold revenantlaw12_MixSpreads.f
  rw [awake_big]
  simp only [bsome, if_true]
  by_cases hl : (keys.length : Int) > 100
  · rw [if_pos hl]
  · rw [if_neg hl]
    have hl : keys.length ≤ 100 := by omega
    obtain ⟨n, bk, hn, hr, hb, hlt, hr2⟩ : ∃ (n : Nat) (bk : Int → Nat), n ≤ 64 ∧ (if CheckV a b c d e = 0 then (if a = 2 then c else d) else 0) = (n : Int) ∧
        (∀ (k : Nat) (key : Int), 1 ≤ k → key ∈ keys → mix_Bucket.f k a b c d e key = some (bk key : Int)) ∧ (n = 0 ∨ ∀ key, key ∈ keys → bk key < n) ∧
        (n = 0 ∨ ∀ key, key ∈ keys → (a = 2 → revenantref12_Bucket.f c key = some (bk key : Int)) ∧ (a ≠ 2 → bk key = 0)) := by
      by_cases hc : CheckV a b c d e = 0
      · have z := check_zero hc
        by_cases h2 : a = 2
        · subst h2
          refine ⟨c.toNat, fun key => buck c.toNat (B key), by omega, by rw [if_pos hc, if_pos rfl]; omega, ?_, .inr ?_, .inr ?_⟩
          · intro k key hk1 hm
            have := wf_u64.1 (hk key hm)
            exact bucket_yes hk1 hc this.1 this.2
          · intro key _
            exact buck_lt (by omega) _
          · intro key hm
            have := wf_u64.1 (hk key hm)
            exact ⟨fun _ => rbucket_f (by omega) (by omega) this.1 this.2, fun h => absurd rfl h⟩
        · refine ⟨d.toNat, fun _ => 0, by omega, by rw [if_pos hc, if_neg h2]; omega, ?_, .inr ?_, .inr ?_⟩
          · intro k key hk1 _
            exact bucket_no hk1 (fun h => h2 h.2)
          · intro key _
            show 0 < d.toNat
            omega
          · intro key _
            exact ⟨fun h => absurd h h2, fun _ => rfl⟩
      · refine ⟨0, fun _ => 0, by omega, by rw [if_neg hc]; rfl, ?_, .inl rfl, .inl rfl⟩
        intro k key hk1 _
        exact bucket_no hk1 (fun h => hc h.1)
    have hs : mix_Spread.f 9000 a b c d e keys = some (tab bk keys n keys.length) := by
      unfold mix_Spread.f
      rw [roots_f (by omega), hr]
      simp only [bsome]
      rw [if_pos (by omega), if_pos (by omega), Int.toNat_natCast, ← tab_zero bk keys n]
      exact spread_l hl hn hb hlt keys.length 9000 0 (by omega) (by omega) (by omega)
    rw [hs, rroots_f (by omega), hr]
    simp only [bsome]
    rw [tab_len, if_pos rfl]
    rcases hr2 with hz | hr2
    · subst hz
      show revenantlaw12_MixSpreads.l0 (8999 + 1) keys _ 0 a b c d e = some true
      simp only [revenantlaw12_MixSpreads.l0]
      rw [tab_len, if_neg (by omega)]
    · exact law_l0 hl hn hr2 n 9000 0 (by omega) (by omega) (by omega)
end Go.Proofs.Ytmdncdepdnpjiaa.PMixSpreads
namespace Go.Proofs.Ytmdncdepdnpjiaa.Pure
open Go Go.RowKit Go.Proofs.Ytmdncdepdnpjiaa.PMixSpreads
theorem RMixSpreads (a b c d e : Int) (l : List Int) (_ : (Lit.int .i64 a).wf = true ∧ (Lit.int .i64 b).wf = true ∧ (Lit.int .i64 c).wf = true ∧ (Lit.int .i64 d).wf = true ∧ (Lit.int .i64 e).wf = true) (g : l.length ≤ maxLen ∧ l.length * 8 ≤ 140737488351232 ∧ ∀ y ∈ l, (Lit.int .u64 y).wf = true) :
    ∃ k, revenantlaw12_MixSpreads.f k a b c d e l = some true := ⟨9000, spreads _ _ _ _ _ _ g.2.2⟩
end Go.Proofs.Ytmdncdepdnpjiaa.Pure
