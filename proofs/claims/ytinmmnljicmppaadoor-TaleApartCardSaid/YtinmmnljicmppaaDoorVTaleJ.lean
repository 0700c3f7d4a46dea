import Derived.Test.YtinmmnljicmppaaDoorVTaleG
import Derived.Test.YtinmmnljicmppaaDoorVTalePd
import Derived.Test.YtinmmnljicmppaaDoorVTaleReadOp
import Derived.Test.YtinmmnljicmppaaDoorVWords
/-
Lines that are read are the lines that are written: plain laws.
-/
namespace Go.Proofs.YtinmmnljicmppaaDoor.PTaleApart
open Go Go.RowKit Go.Proofs.YtinmmnljicmppaaDoorW.PrintWords Go.Proofs.YtinmmnljicmppaaDoorW.PrintLast Go.Proofs.YtinmmnljicmppaaDoorW.PrintMore Go.Proofs.YtinmmnljicmppaaDoor.U
set_option linter.unusedVariables false
def CheckV (a b c d e : Int) : Int :=
 if a < 1 ∨ 3 < a then 8
 else if b < 1 ∨ 8388607 < b ∨ e < 2 ∨ 1099511627775 < e ∨ (a = 2 ∧ (c < 1 ∨ 64 < c)) ∨ (a ≠ 2 ∧ c ≠ 0) ∨ (a = 3 ∧ (d < 1 ∨ 16 < d)) ∨ (a ≠ 3 ∧ d ≠ 1) then 3 else 0
theorem within_f (a b c : Int) : conf_within.f a b c = some (decide (b ≤ a ∧ a ≤ c)) := by
 unfold conf_within.f
 by_cases h : a ≥ b
 ·rw [if_pos h]; simp [h]
 ·rw [if_neg h]; simp; omega
theorem check_f {k : Nat} (hk : 1 ≤ k) (a b c d e : Int) : conf_Check.f k a b c d e = some (CheckV a b c d e) := by
 obtain ⟨k, rfl⟩ : ∃ m, k = m + 1 := ⟨k - 1, by omega⟩
 unfold conf_Check.f conf_sizes.f
 simp only [within_f]
 by_cases h1 : a = 1
 ·subst h1
  simp only [if_true, Option.bind_some, conf_Check.j0, within_f, CheckV]
  grind
 ·by_cases h2 : a = 2
  ·subst h2
   simp only [if_true, Option.bind_some, conf_Check.j0, within_f, CheckV]
   grind
  ·by_cases h3 : a = 3
   ·subst h3
    simp only [if_true, Option.bind_some, conf_Check.j0, within_f, CheckV]
    grind
   ·simp only [h1, h2, h3, if_false, Option.bind_some, Bool.false_eq_true, CheckV]
    rw [if_pos (by omega)]
theorem check_zero {a b c d e : Int} (h : CheckV a b c d e = 0) : (a = 1 ∨ a = 2 ∨ a = 3) ∧ 1 ≤ b ∧ b ≤ 8388607 ∧ 2 ≤ e ∧ e ≤ 1099511627775 ∧ (a = 2 → 1 ≤ c ∧ c ≤ 64) ∧ (a ≠ 2 → c = 0) ∧ (a = 3 → 1 ≤ d ∧ d ≤ 16) ∧ (a ≠ 3 → d = 1) := by
 unfold CheckV at h
 split at h
 ·omega
 ·split at h
  ·omega
  ·omega
end Go.Proofs.YtinmmnljicmppaaDoor.PTaleApart
namespace Go.Proofs.YtinmmnljicmppaaDoor.PTaleApart
open Go Go.RowKit Go.Proofs.YtinmmnljicmppaaDoorW.PrintWords Go.Proofs.YtinmmnljicmppaaDoorW.PrintLast Go.Proofs.YtinmmnljicmppaaDoorW.PrintMore Go.Proofs.YtinmmnljicmppaaDoor.U
set_option linter.unusedVariables false
def OpV (a d k x v l : Int) : Int :=
 if (k = 8 ∨ (a = 2 ∧ 4 ≤ k ∧ k ≤ 7) ∨ (a ≠ 2 ∧ 1 ≤ k ∧ k ≤ 3)) then
  (if ((a ≠ 3 ∨ k ≠ 1 ∨ (1 ≤ l ∧ l ≤ d)) ∧ ((a = 3 ∧ k = 1) ∨ l = 0)) then
   (if ((v = 0 ∨ k = 4 ∨ k = 5) ∧ (x = 0 ∨ k ≠ 8)) then 0 else 1) else 3) else 8
theorem asked_f (a k : Int) : conf_isAsked.f a k = some (decide (k = 8 ∨ (a = 2 ∧ 4 ≤ k ∧ k ≤ 7) ∨ (a ≠ 2 ∧ 1 ≤ k ∧ k ≤ 3))) := by
 unfold conf_isAsked.f
 simp only [within_f, bsome]
 grind
theorem level_f (a b c d e k x v l : Int) : conf_isLevel.f a b c d e k x v l = some (decide ((a ≠ 3 ∨ k ≠ 1 ∨ (1 ≤ l ∧ l ≤ d)) ∧ ((a = 3 ∧ k = 1) ∨ l = 0))) := by
 unfold conf_isLevel.f
 simp only [within_f, bsome]
 grind
theorem bare_f (k x v l : Int) : conf_isBare.f k x v l = some (decide ((v = 0 ∨ k = 4 ∨ k = 5) ∧ (x = 0 ∨ k ≠ 8))) := by
 unfold conf_isBare.f
 by_cases h5 : k = 8
 ·subst h5
  by_cases h1 : v = 0 <;> by_cases h2 : x = 0 <;> simp [h1, h2]
 ·by_cases h1 : v = 0 <;> by_cases h2 : x = 0 <;> by_cases h3 : k = 4 <;> by_cases h4 : k = 5 <;> simp_all
theorem isOp_f {n : Nat} (hn : 1 ≤ n) (a b c d e k x v l : Int) : conf_IsOp.f n a b c d e k x v l = some (if CheckV a b c d e = 0 then OpV a d k x v l else CheckV a b c d e) := by
 unfold conf_IsOp.f
 rw [check_f hn]
 simp only [bsome]
 rw [asked_f, level_f, bare_f]
 simp only [bsome]
 unfold OpV
 generalize CheckV a b c d e = z
 by_cases hz : z = 0
 ·rw [if_pos hz, if_pos hz]
  simp only [decide_eq_true_eq]
  split
  ·split
   ·split <;> rfl
   ·rfl
  ·rfl
 ·rw [if_neg hz, if_neg hz]
end Go.Proofs.YtinmmnljicmppaaDoor.PTaleApart
namespace Go.Proofs.YtinmmnljicmppaaDoor.PTaleApart
open Go Go.RowKit Go.Proofs.YtinmmnljicmppaaDoorW.PrintWords Go.Proofs.YtinmmnljicmppaaDoorW.PrintLast Go.Proofs.YtinmmnljicmppaaDoorW.PrintMore Go.Proofs.YtinmmnljicmppaaDoor.Str Go.Proofs.YtinmmnljicmppaaDoor.U
set_option linter.unusedVariables false
set_option linter.unusedSimpArgs false
theorem itB_inj {x y : Int} (hx : 0 ≤ x) (hy : 0 ≤ y) (hx2 : x < 18446744073709551616) (hy2 : y < 18446744073709551616) (h : itB x = itB y) : x = y := by
 obtain ⟨n, rfl⟩ := Int.eq_ofNat_of_zero_le hx
 obtain ⟨m, rfl⟩ := Int.eq_ofNat_of_zero_le hy
 rw [itB_nat, itB_nat] at h
 have h2 : Lib.decDigits n = Lib.decDigits m := by
  have h3 := congrArg (fun b : ByteArray => b.data.toList) h
  exact h3
 rw [dec_inj (by omega) (by omega) h2]
theorem nuB_inj {x y : Int} (hx : U64 x) (hy : U64 y) (h : nuB x = nuB y) : x = y := by
 unfold U64 at hx hy
 have h2 : Lib.decDigits x.toNat = Lib.decDigits y.toNat := by
  have h3 := congrArg (fun b : ByteArray => b.data.toList) h
  exact h3
 have := dec_inj (by omega) (by omega) h2
 omega
theorem kindW_inj {n m : Nat} (hn : n < 4) (hm : m < 4) (h : kindW n = kindW m) : n = m := by
 have h2 : (kindW n).data.toList = (kindW m).data.toList := congrArg (fun b : ByteArray => b.data.toList) h
 revert h2
 rcases n with _ | _ | _ | _ | n <;> rcases m with _ | _ | _ | _ | m <;> first | omega | (intro h2; first | rfl | (exfalso; revert h2; decide))
theorem nameW_inj {n m : Nat} (hn : n < 9) (hm : m < 9) (h : nameW n = nameW m) : n = m := by
 have h2 : (nameW n).data.toList = (nameW m).data.toList := congrArg (fun b : ByteArray => b.data.toList) h
 revert h2
 rcases n with _ | _ | _ | _ | _ | _ | _ | _ | _ | n <;> rcases m with _ | _ | _ | _ | _ | _ | _ | _ | _ | m <;> first | omega | (intro h2; first | rfl | (exfalso; revert h2; decide))
theorem conf_apart {a b c d e a' b' c' d' e' : Int} (h : CheckV a b c d e = 0) (h' : CheckV a' b' c' d' e' = 0) (hj : joinB (confL a.toNat b c d e) = joinB (confL a'.toNat b' c' d' e')) : a = a' ∧ b = b' ∧ c = c' ∧ d = d' ∧ e = e' := by
 obtain ⟨p0, p1, p2, p3, p4, p5, p6, p7, p8⟩ := check_zero h
 obtain ⟨q0, q1, q2, q3, q4, q5, q6, q7, q8⟩ := check_zero h'
 have ne : ∀ (n : Nat) (x1 x2 x3 x4 : Int), confL n x1 x2 x3 x4 ≠ [] := by intro n x1 x2 x3 x4; unfold confL; split <;> (try split) <;> simp
 have hl := joinB_inj (ne _ _ _ _ _) (ne _ _ _ _ _) (confL_clean a.toNat (by omega) (fun hh => by have := p5 (by omega); omega) (fun hh => by have := p7 (by omega); omega) (by omega)) (confL_clean a'.toNat (by omega) (fun hh => by have := q5 (by omega); omega) (fun hh => by have := q7 (by omega); omega) (by omega)) hj
 have hk : a = a' := by
  have h0 : ∀ (n : Nat) (x1 x2 x3 x4 : Int), (confL n x1 x2 x3 x4).head? = some (kindW n) := by intro n x1 x2 x3 x4; unfold confL; split <;> (try split) <;> rfl
  have h1 := congrArg List.head? hl
  rw [h0, h0] at h1
  have := kindW_inj (by omega) (by omega) (Option.some.inj h1)
  omega
 subst hk
 unfold confL at hl
 rcases p0 with rfl | rfl | rfl
 ·rw [if_neg (by decide), if_neg (by decide), if_neg (by decide), if_neg (by decide)] at hl
  injection hl with _ hl
  injection hl with h1 hl
  injection hl with h2 hl
  have := itB_inj (by omega) (by omega) (by omega) (by omega) h1
  have := itB_inj (by omega) (by omega) (by omega) (by omega) h2
  omega
 ·rw [if_pos (by decide), if_pos (by decide)] at hl
  injection hl with _ hl
  injection hl with h1 hl
  injection hl with h2 hl
  injection hl with h3 hl
  have := itB_inj (by omega) (by omega) (by omega) (by omega) h1
  have := itB_inj (by omega) (by omega) (by omega) (by omega) h2
  have := itB_inj (by omega) (by omega) (by omega) (by omega) h3
  omega
 ·rw [if_neg (by decide), if_pos (by decide), if_neg (by decide), if_pos (by decide)] at hl
  injection hl with _ hl
  injection hl with h1 hl
  injection hl with h2 hl
  injection hl with h3 hl
  have := itB_inj (by omega) (by omega) (by omega) (by omega) h1
  have := itB_inj (by omega) (by omega) (by omega) (by omega) h2
  have := itB_inj (by omega) (by omega) (by omega) (by omega) h3
  omega
theorem op_zero {a d k x v l : Int} (h : OpV a d k x v l = 0) : 1 ≤ k ∧ k ≤ 8 ∧ (k = 8 → x = 0) ∧ (¬ (k = 4 ∨ k = 5) → v = 0) ∧ (¬ (a = 3 ∧ k = 1) → l = 0) ∧ ((a = 3 ∧ k = 1) → 1 ≤ l ∧ l ≤ d) := by
 unfold OpV at h
 split at h
 ·split at h
  ·split at h
   ·omega
   ·omega
  ·omega
 ·omega
theorem op_apart {a d t k x v l k' x' v' l' : Int} (hd : d ≤ 16) (ht : 0 ≤ t ∧ t < 64) (hx : U64 x) (hv : U64 v) (hx' : U64 x') (hv' : U64 v') (h : OpV a d k x v l = 0) (h' : OpV a d k' x' v' l' = 0) (hj : joinB (opL k.toNat t x v l) = joinB (opL k'.toNat t x' v' l')) : k = k' ∧ x = x' ∧ v = v' ∧ l = l' := by
 obtain ⟨p0, p1, p2, p3, p4, p5⟩ := op_zero h
 obtain ⟨q0, q1, q2, q3, q4, q5⟩ := op_zero h'
 have ne : ∀ (n : Nat) (x1 x2 x3 x4 : Int), opL n x1 x2 x3 x4 ≠ [] := by intro n x1 x2 x3 x4; unfold opL; simp
 have hl0 : 0 ≤ l   := by
  by_cases e : a = 3 ∧ k = 1
  ·have := p5 e; omega
  ·have := p4 e; omega
 have hl1 : 0 ≤ l'   := by
  by_cases e : a = 3 ∧ k' = 1
  ·have := q5 e; omega
  ·have := q4 e; omega
 have hl := joinB_inj (ne _ _ _ _ _) (ne _ _ _ _ _) (opL_clean k.toNat ht.1 hl0) (opL_clean k'.toNat ht.1 hl1) hj
 have hk : k = k' := by
  have h0 : ∀ (n : Nat) (x1 x2 x3 x4 : Int), (opL n x1 x2 x3 x4).tail.head? = some (nameW n) := by intro n x1 x2 x3 x4; rfl
  have h1 := congrArg (fun z => z.tail.head?) hl
  simp only [h0] at h1
  have := nameW_inj (by omega) (by omega) (Option.some.inj h1)
  omega
 subst hk
 unfold opL at hl
 have hl := List.append_cancel_left ((List.append_assoc _ _ _).symm.trans (hl.trans (List.append_assoc _ _ _)))
 by_cases e8 : k = 8
 ·have := p2 e8; have := q2 e8; have := p3 (by omega); have := q3 (by omega); have := p4 (by omega); have := q4 (by omega)
  omega
 ·rw [if_neg (show ¬ k.toNat = 8 by omega), if_neg (show ¬ k.toNat = 8 by omega)] at hl
  injection hl with h1 hl
  have := nuB_inj hx hx' h1
  by_cases e1 : a = 3 ∧ k = 1
  ·have := p5 e1; have := q5 e1
   rw [if_pos (show l > 0 by omega), if_pos (show l' > 0 by omega)] at hl
   injection hl with h2 hl
   have := itB_inj (by omega) (by omega) (by omega) (by omega) h2
   have := p3 (by omega); have := q3 (by omega)
   omega
  ·have := p4 e1; have := q4 e1
   rw [if_neg (show ¬ l > 0 by omega), if_neg (show ¬ l' > 0 by omega)] at hl
   by_cases e4 : k = 4 ∨ k = 5
   ·rw [if_pos (show k.toNat = 4 ∨ k.toNat = 5 by omega), if_pos (show k.toNat = 4 ∨ k.toNat = 5 by omega)] at hl
    injection hl with h2 hl
    have := nuB_inj hv hv' h2
    omega
   ·have := p3 e4; have := q3 e4
    omega
def pickOk (l : List Int) : Prop := ∀ x ∈ l, 0 ≤ x ∧ x < 64
theorem pickWord_inj {p q : Int × Nat} (hp : 0 ≤ p.1 ∧ p.1 < 64 ∧ 1 ≤ p.2 ∧ p.2 < 18446744073709551616) (hq : 0 ≤ q.1 ∧ q.1 < 64 ∧ 1 ≤ q.2 ∧ q.2 < 18446744073709551616) (h : pickWord p = pickWord q) : p = q := by
 have h2 := congrArg (fun z => splitL 42 z) h
 simp only [split_word] at h2
 obtain ⟨a, n⟩ := p
 obtain ⟨b, m⟩ := q
 simp only at hp hq h2
 have key : ∀ {a b : Int}, 0 ≤ a → a < 64 → 0 ≤ b → b < 64 → Lib.decDigits a.toNat = Lib.decDigits b.toNat → a = b := fun h0 h1 h2 h3 h => by have := dec_inj (by omega) (by omega) h; omega
 by_cases h1 : 1 < n
 ·by_cases h3 : 1 < m
  ·rw [if_pos h1, if_pos h3] at h2
   injection h2 with e1 h2
   injection h2 with e2 h2
   rw [key hp.1 hp.2.1 hq.1 hq.2.1 e1, dec_inj hp.2.2.2 hq.2.2.2 e2]
  ·rw [if_pos h1, if_neg h3] at h2
   injection h2 with e1 h2
   cases h2
 ·by_cases h3 : 1 < m
  ·rw [if_neg h1, if_pos h3] at h2
   injection h2 with e1 h2
   cases h2
  ·rw [if_neg h1, if_neg h3] at h2
   injection h2 with e1 h2
   rw [key hp.1 hp.2.1 hq.1 hq.2.1 e1, show n = m by omega]
theorem map_pick_inj : ∀ {a b : List (Int × Nat)}, (∀ q ∈ a, 0 ≤ q.1 ∧ q.1 < 64 ∧ 1 ≤ q.2 ∧ q.2 < 18446744073709551616) → (∀ q ∈ b, 0 ≤ q.1 ∧ q.1 < 64 ∧ 1 ≤ q.2 ∧ q.2 < 18446744073709551616) → a.map pickWord = b.map pickWord → a = b
 | [], [], _, _, _ => rfl
 | [], y :: b, _, _, h => by cases h
 | x :: a, [], _, _, h => by cases h
 | x :: a, y :: b, ha, hb, h => by
  injection h with h1 h2
  rw [pickWord_inj (ha x (by simp)) (hb y (by simp)) h1, map_pick_inj (fun q hq => ha q (by simp [hq])) (fun q hq => hb q (by simp [hq])) h2]
theorem runs_mem : ∀ (k : Nat) (l : List Int), l.length ≤ k → ∀ q ∈ runs l, q.1 ∈ l ∧ 1 ≤ q.2 ∧ q.2 ≤ l.length
 | 0, l, hl => by
  obtain rfl : l = [] := List.eq_nil_of_length_eq_zero (by omega)
  rw [runs_nil]
  intro q hq
  cases hq
 | k + 1, [], _ => by
  rw [runs_nil]
  intro q hq
  cases hq
 | k + 1, x :: r, hl => by
  rw [runs_cons]
  intro q hq
  rcases List.mem_cons.1 hq with rfl | hq
  ·refine ⟨by simp, by simp, ?_⟩
   have := (List.takeWhile_sublist (fun y => y == x) (l := r)).length_le
   simp only [List.length_cons]
   omega
  ·have hd := dropWhile_le (fun y => y == x) r
   simp only [List.length_cons] at hl
   obtain ⟨h1, h2, h3⟩ := runs_mem k (r.dropWhile (fun y => y == x)) (by omega) q hq
   exact ⟨by
    have := (List.dropWhile_sublist (fun y => y == x) (l := r)).subset h1
    simp [this], h2, by simp only [List.length_cons]; omega⟩
theorem picks_apart {l m : List Int} (hl : pickOk l) (hm : pickOk m) (hl2 : l.length ≤ 262144) (hm2 : m.length ≤ 262144) (h : picksLine l = picksLine m) : l = m := by
 have h2 := congrArg (fun z => splitL 32 z) h
 simp only [picks_split] at h2
 injection h2 with _ h2
 have h3 := map_pick_inj (fun q hq => by have := runs_mem _ l (Nat.le_refl _) q hq; have := hl q.1 this.1; omega) (fun q hq => by have := runs_mem _ m (Nat.le_refl _) q hq; have := hm q.1 this.1; omega) h2
 rw [← unrun_runs _ l (Nat.le_refl _), h3, unrun_runs _ m (Nat.le_refl _)]
end Go.Proofs.YtinmmnljicmppaaDoor.PTaleApart
namespace Go.Proofs.YtinmmnljicmppaaDoor.PTaleApart
open Go Go.RowKit Go.Proofs.YtinmmnljicmppaaDoorW.PrintWords Go.Proofs.YtinmmnljicmppaaDoorW.PrintLast Go.Proofs.YtinmmnljicmppaaDoorW.PrintMore Go.Proofs.YtinmmnljicmppaaDoor.Str Go.Proofs.YtinmmnljicmppaaDoor.U
set_option linter.unusedVariables false
set_option linter.unusedSimpArgs false
theorem toList_inj {a b : ByteArray} (h : a.toList = b.toList) : a = b := by
 rw [ByteArray.toList_eq, ByteArray.toList_eq] at h
 obtain ⟨a⟩ := a
 obtain ⟨b⟩ := b
 congr
 exact Array.toList_inj.1 h
def idxI (s : ByteArray) : List ByteArray → Int → Int
 | [], _ => -1
 | x :: r, i => if s = x then i else idxI s r (i + 1)
theorem idx_l (s : ByteArray) (l : List ByteArray) (hl : l.length < 1000) : ∀ (q k i : Nat), i + q = l.length → q < k → slices_Index_string_string.l0 k l s (l.length : Int) (i : Int) = some (idxI s (l.drop i) (i : Int)) := by
 intro q
 induction q with
 | zero =>
  intro k i hi hk
  obtain ⟨k, rfl⟩ : ∃ m, k = m + 1 := ⟨k - 1, by omega⟩
  simp only [slices_Index_string_string.l0]
  rw [if_neg (by omega), List.drop_of_length_le (by omega)]
  rfl
 | succ q ih =>
  intro k i hi hk
  obtain ⟨k, rfl⟩ : ∃ m, k = m + 1 := ⟨k - 1, by omega⟩
  have hw : wrap64 ((i : Int) + 1) = ((i + 1 : Nat) : Int) := by unfold wrap64; omega
  have hlt : i < l.length := by omega
  have hrd : rdOf ByteArray.empty l (i : Int) = l[i] := by unfold rdOf; simp [hlt]
  simp only [slices_Index_string_string.l0]
  rw [if_pos (by omega), if_pos (by omega), if_pos (by omega), hw, hrd, ih k (i + 1) (by omega) (by omega), List.drop_eq_getElem_cons hlt]
  simp only [idxI]
  by_cases h : s = l[i]
  ·rw [if_pos h, if_pos (by rw [h])]
  ·rw [if_neg h, if_neg (fun e => h (toList_inj e))]
   rfl
theorem idx_f (s : ByteArray) (l : List ByteArray) (hl : l.length < 50) {k : Nat} (hk : 50 ≤ k) : slices_Index_string_string.f k l s = some (idxI s l 0) := by
 unfold slices_Index_string_string.f
 exact idx_l s l (by omega) l.length k 0 (by omega) (by omega)
theorem idxI_range (s : ByteArray) : ∀ (l : List ByteArray) (i : Int), 0 ≤ i → idxI s l i = -1 ∨ (i ≤ idxI s l i ∧ idxI s l i < i + l.length) := by
 intro l
 induction l with
 | nil => intro i _; left; rfl
 | cons x r ih =>
  intro i hi
  unfold idxI
  split
  ·right; simp only [List.length_cons]; omega
  ·have := ih (i + 1) (by omega)
   simp only [List.length_cons]
   omega
def wordsOf (line : ByteArray) : List ByteArray := splitS 32 line ++ [(⟨#[]⟩ : ByteArray), (⟨#[]⟩ : ByteArray), (⟨#[]⟩ : ByteArray)]
def wd (line : ByteArray) (i : Nat) : ByteArray := (wordsOf line).getD i ⟨#[]⟩
theorem words_len (line : ByteArray) : (wordsOf line).length = (splitS 32 line).length + 3 := by unfold wordsOf; simp
theorem words_ge (line : ByteArray) : 4 ≤ (wordsOf line).length := by
 have := splitS_len 32 line
 rw [words_len]; omega
theorem words_le (line : ByteArray) : (wordsOf line).length ≤ line.size + 4 := by
 have := splitS_len 32 line
 have h2 : line.data.toList.count 32 ≤ line.data.toList.length := List.count_le_length
 have h3 : line.data.toList.length = line.size := by rw [Array.length_toList]; rfl
 rw [words_len]; omega
theorem piece_le (c : UInt8) : ∀ (l : List UInt8), ∀ w ∈ splitL c l, w.length ≤ l.length
 | [], w, hw => by
  simp only [splitL, List.mem_singleton] at hw
  subst hw
  simp
 | x :: r, w, hw => by
  have ih := piece_le c r
  unfold splitL at hw
  split at hw
  ·rcases List.mem_cons.1 hw with rfl | hw
   ·simp
   ·have := ih w hw; simp only [List.length_cons]; omega
  ·split at hw
   ·rename_i h0
    exact absurd h0 (splitL_ne c r)
   ·rename_i p q h0
    rcases List.mem_cons.1 hw with rfl | hw
    ·have := ih p (by rw [h0]; simp); simp only [List.length_cons]; omega
    ·have := ih w (by rw [h0]; simp [hw]); simp only [List.length_cons]; omega
theorem wd_len (line : ByteArray) (i : Nat) : (wd line i).size ≤ line.size := by
 unfold wd
 have h : ∀ x ∈ wordsOf line, x.size ≤ line.size := by
  intro x hx
  unfold wordsOf at hx
  rcases List.mem_append.1 hx with hx | hx
  ·unfold splitS at hx
   obtain ⟨l, hl, rfl⟩ := List.mem_map.1 hx
   have := piece_le 32 _ l hl
   have h3 : line.data.toList.length = line.size := by rw [Array.length_toList]; rfl
   show l.toArray.size ≤ _
   simp only [List.size_toArray]
   omega
  ·simp only [List.mem_cons, List.not_mem_nil, or_false, or_self] at hx
   subst hx
   exact Nat.zero_le _
 rw [List.getD_eq_getElem?_getD]
 rcases hq : (wordsOf line)[i]? with _ | x
 ·exact Nat.zero_le _
 ·exact h x (List.mem_of_getElem? hq)
def kindN (s : ByteArray) : Nat := (mx (idxI s kinds4 0) 0).toNat
theorem kindN_lt (s : ByteArray) : kindN s < 4 := by
 unfold kindN
 have h := idxI_range s kinds4 0 (Int.le_refl 0)
 have h2 : (kinds4.length : Int) = 4 := rfl
 unfold mx
 split <;> omega
theorem kindN_cast (s : ByteArray) : mx (idxI s kinds4 0) 0 = (kindN s : Int) := by
 unfold kindN
 have h := idxI_range s kinds4 0 (Int.le_refl 0)
 unfold mx
 split <;> omega
def readC (line : ByteArray) : Int × Int × Int × Int × Int :=
 (kindN (wd line 0), smallP (wd line 1).data.toList, if kindN (wd line 0) = 2 then smallP (wd line 2).data.toList else 0, if kindN (wd line 0) = 3 then smallP (wd line 2).data.toList else 1,
  if kindN (wd line 0) = 2 ∨ kindN (wd line 0) = 3 then smallP (wd line 3).data.toList else smallP (wd line 2).data.toList)
theorem smallP_I (l : List UInt8) : I64 (smallP l) := by
 unfold I64 smallP
 split <;> omega
def rcV (c : Int × Int × Int × Int × Int) (line : ByteArray) : (Int × Int × Int × Int × Int) × Int :=
 if CheckV c.1 c.2.1 c.2.2.1 c.2.2.2.1 c.2.2.2.2 = 0 ∧ joinB (confL c.1.toNat c.2.1 c.2.2.1 c.2.2.2.1 c.2.2.2.2) = line then (c, 0) else ((0, 0, 0, 0, 0), 4)
def readConfV (line : ByteArray) : (Int × Int × Int × Int × Int) × Int := rcV (readC line) line
theorem conf_f {a b c d e : Int} (hb : I64 b) (hc : I64 c) (hd : I64 d) (he : I64 e) : tale_Conf.f a b c d e = some (if CheckV a b c d e = 0 then joinB (confL a.toNat b c d e) else ⟨#[]⟩, CheckV a b c d e) := by
 unfold tale_Conf.f
 rw [check_f (by decide), bsome]
 unfold I64 at hb hc hd he
 rw [if_pos ⟨U.wf_i64.2 (by omega), U.wf_i64.2 (by omega), U.wf_i64.2 (by omega), U.wf_i64.2 (by omega), fun h => by
  obtain ⟨h1, _⟩ := check_zero h
  omega⟩]
end Go.Proofs.YtinmmnljicmppaaDoor.PTaleApart
namespace Go.Proofs.YtinmmnljicmppaaDoor.PTaleApart
open Go Go.RowKit Go.Proofs.YtinmmnljicmppaaDoorW.PrintWords Go.Proofs.YtinmmnljicmppaaDoorW.PrintLast Go.Proofs.YtinmmnljicmppaaDoorW.PrintMore Go.Proofs.YtinmmnljicmppaaDoor.Str Go.Proofs.YtinmmnljicmppaaDoor.U
set_option linter.unusedVariables false
set_option linter.unusedSimpArgs false
def nameN (s : ByteArray) : Nat := (mx (idxI s names9 0) 0).toNat
theorem nameN_lt (s : ByteArray) : nameN s < 9 := by
 unfold nameN
 have h := idxI_range s names9 0 (Int.le_refl 0)
 have h2 : (names9.length : Int) = 9 := rfl
 unfold mx
 split <;> omega
theorem nameN_cast (s : ByteArray) : mx (idxI s names9 0) 0 = (nameN s : Int) := by
 unfold nameN
 have h := idxI_range s names9 0 (Int.le_refl 0)
 unfold mx
 split <;> omega
def rKey (line : ByteArray) : Int := if nameN (wd line 1) = 8 then 0 else ((numP (wd line 2).data.toList).1 : Int)
def rVal (line : ByteArray) : Int := if nameN (wd line 1) = 4 ∨ nameN (wd line 1) = 5 then ((numP (wd line 3).data.toList).1 : Int) else 0
def rLev (ck : Int) (line : ByteArray) : Int := if nameN (wd line 1) = 1 ∧ ck = 3 then smallP (wd line 3).data.toList else 0
def rThr (line : ByteArray) : Int := smallP (wd line 0).data.toList
def readOpV (a b c d e : Int) (line : ByteArray) : Int × Int × Int × Int × Int × Int :=
 if CheckV a b c d e = 0 ∧ OpV a d (nameN (wd line 1)) (rKey line) (rVal line) (rLev a line) = 0 ∧ 0 ≤ rThr line ∧ rThr line < 64 ∧ joinB (opL (nameN (wd line 1)) (rThr line) (rKey line) (rVal line) (rLev a line)) = line then
  (rThr line, nameN (wd line 1), rKey line, rVal line, rLev a line, 0) else (0, 0, 0, 0, 0, 4)
theorem numP_U (l : List UInt8) : U64 ((numP l).1 : Int) := by
 have := numP_lt l
 unfold U64
 omega
theorem rKey_U (line : ByteArray) : U64 (rKey line) := by
 unfold rKey
 split
 ·exact ⟨by omega, by omega⟩
 ·exact numP_U _
theorem rVal_U (line : ByteArray) : U64 (rVal line) := by
 unfold rVal
 split
 ·exact numP_U _
 ·exact ⟨by omega, by omega⟩
theorem rLev_I (a : Int) (line : ByteArray) : I64 (rLev a line) := by
 unfold rLev
 split
 ·exact smallP_I _
 ·exact ⟨by omega, by omega⟩
theorem op_f {a b c d e t k x v l : Int} (ht : I64 t) (hx : U64 x) (hv : U64 v) (hl : I64 l) (hk : 0 ≤ k ∧ k < 9) : tale_Op.f a b c d e t k x v l = some (if CheckV a b c d e = 0 ∧ OpV a d k x v l = 0 ∧ 0 ≤ t ∧ t < 64 then joinB (opL k.toNat t x v l) else ⟨#[]⟩, if CheckV a b c d e = 0 then (if OpV a d k x v l = 0 then (if 0 ≤ t ∧ t < 64 then 0 else 3) else OpV a d k x v l) else CheckV a b c d e) := by
 unfold tale_Op.f
 rw [isOp_f (by decide), bsome]
 unfold I64 at ht hl
 unfold U64 at hx hv
 rw [if_pos ⟨U.wf_i64.2 (by omega), U.wf_u64.2 (by omega), U.wf_u64.2 (by omega), U.wf_i64.2 (by omega), fun _ => hk⟩]
 by_cases hc : CheckV a b c d e = 0
 ·rw [hc]
  simp only [if_true, true_and]
 ·simp only [hc, if_false, false_and]
theorem rd_wd (line : ByteArray) {i : Nat} (h : i < (wordsOf line).length) : rdOf ByteArray.empty (wordsOf line) (i : Int) = wd line i := by
 unfold rdOf wd
 rw [Int.toNat_natCast]
 simp [h]
theorem rd_wd0 (line : ByteArray) : rdOf ByteArray.empty (wordsOf line) 0 = wd line 0 := rd_wd line (i := 0) (by have := words_ge line; omega)
theorem rd_wd1 (line : ByteArray) : rdOf ByteArray.empty (wordsOf line) 1 = wd line 1 := rd_wd line (i := 1) (by have := words_ge line; omega)
theorem rd_wd2 (line : ByteArray) : rdOf ByteArray.empty (wordsOf line) 2 = wd line 2 := rd_wd line (i := 2) (by have := words_ge line; omega)
theorem rd_wd3 (line : ByteArray) : rdOf ByteArray.empty (wordsOf line) 3 = wd line 3 := rd_wd line (i := 3) (by have := words_ge line; omega)
theorem number_f {s : ByteArray} (h : s.size ≤ 281474976710656) : tale_number.f s = some (((numP s.data.toList).1 : Int), (numP s.data.toList).2) := by
 unfold tale_number.f
 rw [if_pos h]
theorem small_f {s : ByteArray} (h : s.size ≤ 281474976710656) : tale_small.f s = some (smallP s.data.toList) := by
 unfold tale_small.f
 rw [if_pos h]
theorem splitf_eq (line : ByteArray) (h : line.size ≤ 4000000000) : strings_Split.f line (⟨#[32]⟩ : ByteArray) = some (splitS 32 line) := by
 unfold strings_Split.f
 rw [if_pos ⟨by omega, by decide⟩, splitB_eq]
theorem readOp_j1 (m : Nat) (a b c d e k x v l : Int) (line : ByteArray) (hs : line.size ≤ 4000000000) (hx : U64 x) (hv : U64 v) (hl : I64 l) (hk : 0 ≤ k ∧ k < 9) : tale_ReadOp.j1 (m + 1) line (wordsOf line) a b c d e k x v l = some (if CheckV a b c d e = 0 ∧ OpV a d k x v l = 0 ∧ 0 ≤ rThr line ∧ rThr line < 64 ∧ joinB (opL k.toNat (rThr line) x v l) = line then (rThr line, k, x, v, l, 0) else (0, 0, 0, 0, 0, 4)) := by
 have h4 := words_ge line
 have hw := wd_len line 0
 simp only [tale_ReadOp.j1]
 rw [if_pos (by omega), rd_wd0 line, small_f (by omega), bsome, op_f (smallP_I _) hx hv hl hk, bsome]
 show _ = some (if CheckV a b c d e = 0 ∧ OpV a d k x v l = 0 ∧ 0 ≤ smallP (wd line 0).data.toList ∧ smallP (wd line 0).data.toList < 64 ∧ joinB (opL k.toNat (smallP (wd line 0).data.toList) x v l) = line then (smallP (wd line 0).data.toList, k, x, v, l, 0) else (0, 0, 0, 0, 0, 4))
 generalize smallP (wd line 0).data.toList = t
 by_cases hc : CheckV a b c d e = 0
 ·by_cases ho : OpV a d k x v l = 0
  ·by_cases ht : 0 ≤ t ∧ t < 64
   ·simp only [hc, ho, ht, and_self, if_true, true_and, Int.natCast_zero, if_pos (show (0 : Int) = 0 from rfl)]
    by_cases hj : joinB (opL k.toNat t x v l) = line
    ·rw [if_pos (by rw [hj]), if_pos hj]
    ·rw [if_neg (fun h => hj (toList_inj h)), if_neg hj]
   ·have hf : ¬ (CheckV a b c d e = 0 ∧ OpV a d k x v l = 0 ∧ 0 ≤ t ∧ t < 64) := fun h => ht h.2.2
    rw [if_neg hf]
    simp only [hc, ho, ht, if_true, if_false]
    rw [if_neg (by decide), if_neg (fun h => ht ⟨h.2.2.1, h.2.2.2.1⟩)]
  ·have hf : ¬ (CheckV a b c d e = 0 ∧ OpV a d k x v l = 0 ∧ 0 ≤ t ∧ t < 64) := fun h => ho h.2.1
   rw [if_neg hf]
   simp only [hc, ho, if_true, if_false]
   rw [if_neg (fun h => h.2.1)]
 ·have hf : ¬ (CheckV a b c d e = 0 ∧ OpV a d k x v l = 0 ∧ 0 ≤ t ∧ t < 64) := fun h => hc h.1
  rw [if_neg hf]
  simp only [hc, if_false]
  rw [if_neg (fun h => h.1)]
theorem readOp_f (a b c d e : Int) (line : ByteArray) (hs : line.size ≤ 4000000000) : tale_ReadOp.f 100 a b c d e line = some (readOpV a b c d e line) := by
 have h4 := words_ge line
 have hle := words_le line
 have hw := wd_len line
 have hn := nameN_lt (wd line 1)
 unfold tale_ReadOp.f
 rw [splitf_eq line hs, bsome, bsome, if_pos (by have := words_len line; simp only [List.length_cons, List.length_nil]; omega), bsome]
 rw [show splitS 32 line ++ [(⟨#[]⟩ : ByteArray), (⟨#[]⟩ : ByteArray), (⟨#[]⟩ : ByteArray)] = wordsOf line from rfl]
 rw [names_eq, bsome, if_pos (by omega), rd_wd1 line, idx_f _ _ (by decide) (by decide), bsome, if_pos (by omega)]
 rw [rd_wd2 line, number_f (by have := hw 2; omega), bsome]
 simp only [nameN_cast]
 have hU0 : U64 0 := ⟨by omega, by omega⟩
 have hI0 : I64 0 := ⟨by omega, by omega⟩
 have hkk : (0 : Int) ≤ (nameN (wd line 1) : Int) ∧ (nameN (wd line 1) : Int) < 9 := by omega
 have key : ∀ m (x v l : Int), rKey line = x → rVal line = v → rLev a line = l → tale_ReadOp.j1 (m + 1) line (wordsOf line) a b c d e (nameN (wd line 1)) x v l = some (readOpV a b c d e line) := by
  intro m x v l e1 e2 e3
  have H : tale_ReadOp.j1 (m + 1) line (wordsOf line) a b c d e (nameN (wd line 1)) (rKey line) (rVal line) (rLev a line) = some (readOpV a b c d e line) := readOp_j1 m a b c d e (nameN (wd line 1)) (rKey line) (rVal line) (rLev a line) line hs (rKey_U line) (rVal_U line) (rLev_I a line) hkk
  rw [e1, e2, e3] at H
  exact H
 by_cases h1 : nameN (wd line 1) = 1
 ·rw [if_pos (by omega)]
  by_cases ha : a = 3
  ·rw [if_pos ha, if_pos (by omega), rd_wd3 line, small_f (by have := hw 3; omega), bsome]
   exact key 99 _ _ _ (by unfold rKey; rw [if_neg (by omega)]) (by unfold rVal; rw [if_neg (by omega)]) (by unfold rLev; rw [if_pos ⟨h1, ha⟩])
  ·rw [if_neg ha]
   exact key 99 _ _ _ (by unfold rKey; rw [if_neg (by omega)]) (by unfold rVal; rw [if_neg (by omega)]) (by unfold rLev; rw [if_neg (fun h => ha h.2)])
 ·rw [if_neg (by omega)]
  have e3 : rLev a line = 0 := by unfold rLev; rw [if_neg (fun h => h1 h.1)]
  by_cases h4 : nameN (wd line 1) = 4
  ·rw [if_pos (by omega)]
   simp only [tale_ReadOp.j0]
   rw [if_pos (by rw [h4]; decide), if_pos (by omega), rd_wd3 line, number_f (by have := hw 3; omega), bsome]
   exact key 98 _ _ _ (by unfold rKey; rw [if_neg (by omega)]) (by unfold rVal; rw [if_pos (by omega)]) e3
  ·rw [if_neg (by omega)]
   simp only [tale_ReadOp.j0]
   by_cases h5 : nameN (wd line 1) = 5
   ·rw [if_pos (by rw [h5]; decide), if_pos (by omega), rd_wd3 line, number_f (by have := hw 3; omega), bsome]
    exact key 98 _ _ _ (by unfold rKey; rw [if_neg (by omega)]) (by unfold rVal; rw [if_pos (by omega)]) e3
   ·rw [if_neg (by simp only [beq_iff_eq]; omega)]
    by_cases h8 : nameN (wd line 1) = 8
    ·rw [if_pos (by omega)]
     exact key 98 _ _ _ (by unfold rKey; rw [if_pos h8]) (by unfold rVal; rw [if_neg (by omega)]) e3
    ·rw [if_neg (by omega)]
     exact key 98 _ _ _ (by unfold rKey; rw [if_neg h8]) (by unfold rVal; rw [if_neg (by omega)]) e3
end Go.Proofs.YtinmmnljicmppaaDoor.PTaleApart
namespace Go.Proofs.YtinmmnljicmppaaDoor.PTaleApart
open Go Go.RowKit Go.Proofs.YtinmmnljicmppaaDoorW.PrintWords Go.Proofs.YtinmmnljicmppaaDoorW.PrintLast Go.Proofs.YtinmmnljicmppaaDoorW.PrintMore Go.Proofs.YtinmmnljicmppaaDoor.Str Go.Proofs.YtinmmnljicmppaaDoor.U
set_option linter.unusedVariables false
set_option linter.unusedSimpArgs false
theorem words_join (l : List ByteArray) (hne : l ≠ []) (h : ∀ x ∈ l, (32 : UInt8) ∉ x.data.toList) : wordsOf (joinB l) = l ++ [(⟨#[]⟩ : ByteArray), (⟨#[]⟩ : ByteArray), (⟨#[]⟩ : ByteArray)] := by
 unfold wordsOf
 rw [split_joinB l hne h]
theorem kindN_kindW {n : Nat} (hn : n < 4) : kindN (kindW n) = n := by
 rcases n with _ | _ | _ | _ | n <;> first | omega | decide
theorem nameN_nameW {n : Nat} (hn : n < 9) : nameN (nameW n) = n := by
 rcases n with _ | _ | _ | _ | _ | _ | _ | _ | _ | n <;> first | omega | decide
theorem small_itB {x : Int} (h0 : 0 ≤ x) (h1 : x ≤ 4611686018427387904) : smallP (itB x).data.toList = x := by
 obtain ⟨n, rfl⟩ := Int.eq_ofNat_of_zero_le h0
 exact small_it n (by omega)
theorem num_nuB {x : Int} (h : U64 x) : ((numP (nuB x).data.toList).1 : Int) = x := by
 unfold U64 at h
 obtain ⟨n, rfl⟩ := Int.eq_ofNat_of_zero_le h.1
 rw [num_nu n (by omega)]
theorem readConf_conf {a b c d e : Int} (h : CheckV a b c d e = 0) : readConfV (joinB (confL a.toNat b c d e)) = ((a, b, c, d, e), 0) := by
 obtain ⟨p0, p1, p2, p3, p4, p5, p6, p7, p8⟩ := check_zero h
 have ne : ∀ (n : Nat) (x1 x2 x3 x4 : Int), confL n x1 x2 x3 x4 ≠ [] := by intro n x1 x2 x3 x4; unfold confL; split <;> (try split) <;> simp
 have hw := words_join (confL a.toNat b c d e) (ne _ _ _ _ _) (confL_clean a.toNat (by omega) (fun hh => by have := p5 (by omega); omega) (fun hh => by have := p7 (by omega); omega) (by omega))
 have hr : readC (joinB (confL a.toNat b c d e)) = (a, b, c, d, e) := by
  generalize hL : joinB (confL a.toNat b c d e) = L at hw
  unfold readC wd
  rw [hw]
  unfold confL
  rcases p0 with rfl | rfl | rfl
  ·rw [if_neg (by decide), if_neg (by decide)]
   show ((kindN (kindW 1) : Int), smallP (itB b).data.toList, (if kindN (kindW 1) = 2 then smallP (itB e).data.toList else 0), (if kindN (kindW 1) = 3 then smallP (itB e).data.toList else 1), (if kindN (kindW 1) = 2 ∨ kindN (kindW 1) = 3 then _ else smallP (itB e).data.toList)) = _
   rw [kindN_kindW (by decide), if_neg (by decide), if_neg (by decide), if_neg (by decide), small_itB (by omega) (by omega), small_itB (by omega) (by omega), p6 (by decide), p8 (by decide)]
   rfl
  ·rw [if_pos (by decide)]
   show ((kindN (kindW 2) : Int), smallP (itB b).data.toList, (if kindN (kindW 2) = 2 then smallP (itB c).data.toList else 0), (if kindN (kindW 2) = 3 then smallP (itB c).data.toList else 1), (if kindN (kindW 2) = 2 ∨ kindN (kindW 2) = 3 then smallP (itB e).data.toList else _)) = _
   have := p5 rfl
   rw [kindN_kindW (by decide), if_pos (by decide), if_neg (by decide), if_pos (by decide), small_itB (by omega) (by omega), small_itB (by omega) (by omega), small_itB (by omega) (by omega), p8 (by decide)]
   rfl
  ·rw [if_neg (by decide), if_pos (by decide)]
   show ((kindN (kindW 3) : Int), smallP (itB b).data.toList, (if kindN (kindW 3) = 2 then _ else 0), (if kindN (kindW 3) = 3 then smallP (itB d).data.toList else 1), (if kindN (kindW 3) = 2 ∨ kindN (kindW 3) = 3 then smallP (itB e).data.toList else _)) = _
   have := p7 rfl
   rw [kindN_kindW (by decide), if_neg (by decide), if_pos (by decide), if_pos (by decide), small_itB (by omega) (by omega), small_itB (by omega) (by omega), small_itB (by omega) (by omega), p6 (by decide)]
   rfl
 unfold readConfV rcV
 rw [hr]
 exact if_pos ⟨h, rfl⟩
theorem readOp_op {a b c d e t k x v l : Int} (hc : CheckV a b c d e = 0) (ho : OpV a d k x v l = 0) (ht : 0 ≤ t ∧ t < 64) (hx : U64 x) (hv : U64 v) : readOpV a b c d e (joinB (opL k.toNat t x v l)) = (t, k, x, v, l, 0) := by
 obtain ⟨q0, q1, q2, q3, q4, q5, q6, q7, q8⟩ := check_zero hc
 obtain ⟨p0, p1, p2, p3, p4, p5⟩ := op_zero ho
 have hl0 : 0 ≤ l   := by
  by_cases e : a = 3 ∧ k = 1
  ·have := p5 e; omega
  ·have := p4 e; omega
 have hl1 : l ≤ 16   := by
  by_cases e : a = 3 ∧ k = 1
  ·have := p5 e; omega
  ·have := p4 e; omega
 have ne : ∀ (n : Nat) (x1 x2 x3 x4 : Int), opL n x1 x2 x3 x4 ≠ [] := by intro n x1 x2 x3 x4; unfold opL; simp
 have hw := words_join (opL k.toNat t x v l) (ne _ _ _ _ _) (opL_clean k.toNat ht.1 hl0)
 obtain ⟨n, rfl⟩ := Int.eq_ofNat_of_zero_le (show 0 ≤ k by omega)
 have key : nameN (wd (joinB (opL (n : Int).toNat t x v l)) 1) = n ∧ rKey (joinB (opL (n : Int).toNat t x v l)) = x ∧ rVal (joinB (opL (n : Int).toNat t x v l)) = v ∧ rLev a (joinB (opL (n : Int).toNat t x v l)) = l ∧ rThr (joinB (opL (n : Int).toNat t x v l)) = t := by
  generalize hL : joinB (opL (n : Int).toNat t x v l) = L at hw
  have h1 : nameN (wd L 1) = n := by
   unfold wd
   rw [hw]
   exact nameN_nameW (by omega)
  have h0 : rThr L = t := by
   unfold rThr wd
   rw [hw]
   exact small_itB ht.1 (by omega)
  refine ⟨h1, ?_, ?_, ?_, h0⟩
  ·unfold rKey
   rw [h1]
   by_cases h8 : n = 8
   ·rw [if_pos h8, p2 (by omega)]
   ·rw [if_neg h8]
    unfold wd
    rw [hw]
    unfold opL
    rw [if_neg (by omega)]
    exact num_nuB hx
  ·unfold rVal
   rw [h1]
   by_cases h4 : n = 4 ∨ n = 5
   ·rw [if_pos h4]
    have := p4 (by omega)
    unfold wd
    rw [hw]
    unfold opL
    rw [if_neg (by omega), if_neg (by omega), if_pos (by omega)]
    exact num_nuB hv
   ·rw [if_neg h4, p3 (by omega)]
  ·unfold rLev
   rw [h1]
   by_cases h3 : n = 1 ∧ a = 3
   ·rw [if_pos h3]
    have := p5 (by omega)
    unfold wd
    rw [hw]
    unfold opL
    rw [if_neg (by omega), if_pos (by omega)]
    exact small_itB (by omega) (by omega)
   ·rw [if_neg h3, p4 (by omega)]
 obtain ⟨k1, k2, k3, k4, k5⟩ := key
 unfold readOpV
 rw [k1, k2, k3, k4, k5]
 exact if_pos ⟨hc, ho, ht.1, ht.2, rfl⟩
theorem readOp_conf {a b c d e : Int} (h : CheckV a b c d e = 0) (a' b' c' d' e' : Int) : (readOpV a' b' c' d' e' (joinB (confL a.toNat b c d e))).2.2.2.2.2 = 4 := by
 obtain ⟨p0, p1, p2, p3, p4, p5, p6, p7, p8⟩ := check_zero h
 have ne : ∀ (n : Nat) (x1 x2 x3 x4 : Int), confL n x1 x2 x3 x4 ≠ [] := by intro n x1 x2 x3 x4; unfold confL; split <;> (try split) <;> simp
 have hw := words_join (confL a.toNat b c d e) (ne _ _ _ _ _) (confL_clean a.toNat (by omega) (fun hh => by have := p5 (by omega); omega) (fun hh => by have := p7 (by omega); omega) (by omega))
 have h0 : rThr (joinB (confL a.toNat b c d e)) = -1 := by
  unfold rThr wd
  rw [hw]
  have h1 : (confL a.toNat b c d e ++ [(⟨#[]⟩ : ByteArray), (⟨#[]⟩ : ByteArray), (⟨#[]⟩ : ByteArray)]).getD 0 ⟨#[]⟩ = kindW a.toNat := by
   unfold confL; split <;> (try split) <;> rfl
  rw [h1]
  have h2 : ∀ n, 1 ≤ n → n < 4 → (numP (kindW n).data.toList).2 = false := by
   intro n hn hn4
   rcases n with _ | _ | _ | _ | n <;> first | omega | decide
  unfold smallP
  rw [h2 _ (by omega) (by omega)]
  rfl
 unfold readOpV
 rw [h0, if_neg (fun hh => absurd hh.2.2.1 (by decide))]
theorem readConf_picks (l : List Int) : (readConfV ⟨(picksLine l).toArray⟩).2 = 4 := by
 have hk : kindN (wd ⟨(picksLine l).toArray⟩ 0) = 0 := by
  have h1 : wd ⟨(picksLine l).toArray⟩ 0 = ⟨picksB.toArray⟩ := by
   unfold wd wordsOf splitS
   show (((splitL 32 (picksLine l)).map (fun l => (⟨l.toArray⟩ : ByteArray))) ++ _).getD 0 ⟨#[]⟩ = _
   rw [picks_split]
   rfl
  rw [h1]
  decide
 unfold readConfV rcV
 have h0 : (readC ⟨(picksLine l).toArray⟩).1 = 0 := by unfold readC; rw [hk]; rfl
 have hc : ∀ b c d e, CheckV 0 b c d e ≠ 0 := by intro b c d e; unfold CheckV; rw [if_pos (by omega)]; decide
 rw [h0]
 exact congrArg Prod.snd (if_neg (fun hh => hc _ _ _ _ hh.1))
end Go.Proofs.YtinmmnljicmppaaDoor.PTaleApart
