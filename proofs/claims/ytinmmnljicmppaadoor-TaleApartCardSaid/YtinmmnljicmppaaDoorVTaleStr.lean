import Derived.Lib.IndexBytes
import Derived.Lib.SplitLaws
import Derived.Lib.Join
import Derived.Lib.ParseIntB
import Derived.Lib.ItoaNum
import Derived.Test.YtinmmnljicmppaaDoorProg
/-
Words, lines, numerals and runs of picks: plain laws.
-/
namespace Go.Proofs.YtinmmnljicmppaaDoor.Str
open Go
set_option linter.unusedVariables false
set_option linter.unusedSimpArgs false
def splitL (c : UInt8) : List UInt8 → List (List UInt8)
 | [] => [[]]
 | x :: r => if x = c then [] :: splitL c r else match splitL c r with
  | [] => [[x]]
  | w :: ws => (x :: w) :: ws
theorem splitL_ne (c : UInt8) (l : List UInt8) : splitL c l ≠ [] := by
 cases l with
 | nil => simp [splitL]
 | cons x r =>
  unfold splitL
  split
  ·simp
  ·split <;> simp
theorem splitL_miss (c : UInt8) : ∀ l : List UInt8, c ∉ l → splitL c l = [l]
 | [], _ => rfl
 | x :: r, h => by
  have h1 : ¬ x = c := fun e => h (by simp [e])
  have h2 : c ∉ r := fun e => h (by simp [e])
  unfold splitL
  rw [if_neg h1, splitL_miss c r h2]
theorem splitL_hit (c : UInt8) : ∀ (a b : List UInt8), c ∉ a → splitL c (a ++ c :: b) = a :: splitL c b
 | [], b, _ => if_pos rfl
 | x :: r, b, h => by
  have h1 : ¬ x = c := fun e => h (by simp [e])
  have h2 : c ∉ r := fun e => h (by simp [e])
  show splitL c (x :: (r ++ c :: b)) = _
  rw [splitL, if_neg h1, splitL_hit c r b h2]
theorem splitL_join (c : UInt8) : ∀ ws : List (List UInt8), ws ≠ [] → (∀ w ∈ ws, c ∉ w) → splitL c (Lib.join ws [c]) = ws
 | [], h, _ => absurd rfl h
 | [w], _, h => by rw [Lib.join_one, splitL_miss c w (h w (by simp))]
 | w :: v :: r, _, h => by
  have ih := splitL_join c (v :: r) (by simp) (fun x hx => h x (by simp [hx]))
  have e : Lib.join (w :: v :: r) [c] = w ++ c :: Lib.join (v :: r) [c] := by
   rw [Lib.join_cons, Lib.join_cons]
   simp [Lib.joinTail]
  rw [e, splitL_hit c w _ (h w (by simp)), ih]
theorem splitL_len (c : UInt8) : ∀ l : List UInt8, (splitL c l).length = l.count c + 1
 | [] => rfl
 | x :: r => by
  have ih := splitL_len c r
  unfold splitL
  by_cases hx : x = c
  ·subst hx; rw [if_pos rfl]; simp [ih]
  ·rw [if_neg hx, List.count_cons_of_ne (by simpa using hx)]
   split
   ·rename_i h; rw [h] at ih; simp at ih
   ·rename_i h; rw [h] at ih; simpa using ih
theorem dec_digits (n : Nat) : ∀ b ∈ Lib.decDigits n, 48 ≤ b.toNat ∧ b.toNat ≤ 57 := by
 induction n using Nat.strongRecOn with
 | _ n ih =>
  intro b hb
  by_cases h10 : n < 10
  ·rw [Lib.decDigits_one h10] at hb
   obtain rfl := List.mem_singleton.1 hb
   have : (UInt8.ofNat (48 + n)).toNat = 48 + n := by simp; omega
   omega
  ·rw [Lib.decDigits, dif_neg h10] at hb
   rcases List.mem_append.1 hb with h | h
   ·exact ih (n / 10) (by omega) b h
   ·obtain rfl := List.mem_singleton.1 h
    have : (UInt8.ofNat (48 + n % 10)).toNat = 48 + n % 10 := by simp; omega
    omega
theorem dec_ne (n : Nat) : Lib.decDigits n ≠ [] := by
 by_cases h10 : n < 10
 ·rw [Lib.decDigits_one h10]; simp
 ·rw [Lib.decDigits, dif_neg h10]; simp
theorem parse_app (M : Nat) : ∀ (a b : List UInt8) (acc u : Nat), Lib.parseUintM M acc a = .ok u → Lib.parseUintM M acc (a ++ b) = Lib.parseUintM M u b
 | [], b, acc, u, h => by
  have : acc = u := by simpa [Lib.parseUintM] using h
  rw [this]; rfl
 | c :: r, b, acc, u, h => by
  simp only [Lib.parseUintM, List.cons_append] at h ⊢
  split at h
  ·rename_i h1
   rw [if_pos h1]
   split at h
   ·cases h
   ·rename_i h2
    rw [if_neg h2]
    split at h
    ·cases h
    ·rename_i h3
     rw [if_neg h3]
     exact parse_app M r b _ u h
  ·cases h
theorem parse_dec (n : Nat) (h : n < 18446744073709551616) : Lib.parseUintM 18446744073709551615 0 (Lib.decDigits n) = .ok n := by
 induction n using Nat.strongRecOn with
 | _ n ih =>
  by_cases h10 : n < 10
  ·rw [Lib.decDigits_one h10]
   have e : (UInt8.ofNat (48 + n)).toNat = 48 + n := by simp; omega
   simp only [Lib.parseUintM, e]
   rw [if_pos (by omega), if_neg (by omega), if_neg (by omega)]
   congr 1; omega
  ·rw [Lib.decDigits, dif_neg h10, parse_app _ _ _ _ _ (ih (n / 10) (by omega) (by omega))]
   have e : (UInt8.ofNat (48 + n % 10)).toNat = 48 + n % 10 := by simp; omega
   simp only [Lib.parseUintM, e]
   rw [if_pos (by omega), if_neg (by omega), if_neg (by omega)]
   congr 1; omega
theorem parseB_dec (n : Nat) (h : n < 18446744073709551616) : Lib.parseUintB 64 (Lib.decDigits n) = .ok n := by
 unfold Lib.parseUintB
 rw [if_neg (dec_ne n)]
 exact parse_dec n h
theorem dec_inj {n m : Nat} (hn : n < 18446744073709551616) (hm : m < 18446744073709551616) (h : Lib.decDigits n = Lib.decDigits m) : n = m := by
 have h1 := parseB_dec n hn
 rw [h, parseB_dec m hm] at h1
 injection h1 with h1
 exact h1.symm
end Go.Proofs.YtinmmnljicmppaaDoor.Str
namespace Go.Proofs.YtinmmnljicmppaaDoor.Str
open Go
set_option linter.unusedVariables false
set_option linter.unusedSimpArgs false
theorem idx_cases (c : UInt8) : ∀ l : List UInt8, (Lib.index l [c] = -1 ∧ c ∉ l) ∨ ∃ a b, l = a ++ c :: b ∧ c ∉ a ∧ Lib.index l [c] = (a.length : Int)
 | [] => .inl ⟨rfl, by simp⟩
 | x :: r => by
  have h1 := Lib.index_one (x :: r) c
  have h2 := Lib.index_one r c
  unfold Lib.indexByte at h1
  by_cases hx : x = c
  ·subst hx
   refine .inr ⟨[], r, rfl, by simp, ?_⟩
   rw [h1, if_pos (by simp)]; rfl
  ·rw [if_neg (by simpa using hx)] at h1
   rcases idx_cases c r with ⟨h3, h4⟩ | ⟨a, b, h3, h4, h5⟩
   ·refine .inl ⟨?_, by simp [h4]; exact fun e => hx e.symm⟩
    rw [h1, ← h2, h3]; rfl
   ·refine .inr ⟨x :: a, b, by rw [h3]; rfl, by simp [h4]; exact fun e => hx e.symm, ?_⟩
    rw [h1, ← h2, h5, if_neg (by simp only [beq_iff_eq]; omega)]
    simp
theorem splitK_one (c : UInt8) : ∀ (k : Nat) (l : List UInt8), Lib.count l [c] = k → Lib.splitK [c] 0 k l = splitL c l := by
 intro k
 induction k with
 | zero =>
  intro l hk
  rw [Lib.count_one] at hk
  have : c ∉ l := fun h => by have := List.count_pos_iff.2 h; omega
  rw [splitL_miss c l this]; rfl
 | succ k ih =>
  intro l hk
  rcases idx_cases c l with ⟨h1, h2⟩ | ⟨a, b, rfl, h2, h3⟩
  ·rw [Lib.count_miss h1] at hk; omega
  ·have hc := Lib.count_hit (s := a ++ c :: b) (sub := [c]) (by simp) h3
   have hd : (a ++ c :: b).drop (a.length + [c].length) = b := by
    rw [← List.drop_drop, List.drop_left]; rfl
   rw [hd] at hc
   unfold Lib.splitK
   rw [if_neg (by rw [h3]; simp only [beq_iff_eq]; omega), h3, Int.toNat_natCast, Nat.add_zero, List.take_left, hd, ih b (by omega), splitL_hit c a b h2]
theorem splitB_one (c : UInt8) (s : ByteArray) : (Lib.splitB ⟨#[c]⟩ 0 (Lib.countB s ⟨#[c]⟩) s).map (·.data.toList) = splitL c s.data.toList := by
 rw [Lib.splitB_data]
 exact splitK_one c _ _ rfl
def splitS (c : UInt8) (s : ByteArray) : List ByteArray := (splitL c s.data.toList).map (fun l => ⟨l.toArray⟩)
theorem splitB_eq (c : UInt8) (s : ByteArray) : Lib.splitB ⟨#[c]⟩ 0 (Lib.countB s ⟨#[c]⟩) s = splitS c s := by
 unfold splitS
 rw [← splitB_one, List.map_map]
 refine (List.map_id _).symm.trans ?_
 apply List.map_congr_left
 intro x _
 rfl
theorem splitS_len (c : UInt8) (s : ByteArray) : (splitS c s).length = s.data.toList.count c + 1 := by
 unfold splitS; rw [List.length_map, splitL_len]
theorem cut_miss (c : UInt8) (l : List UInt8) (h : c ∉ l) : Lib.cut l [c] = (l, [], false) := by
 rcases idx_cases c l with ⟨h1, _⟩ | ⟨a, b, rfl, _, _⟩
 ·unfold Lib.cut; rw [h1, if_neg (by omega)]
 ·exact absurd (by simp) h
theorem cut_hit (c : UInt8) (a b : List UInt8) (h : c ∉ a) : Lib.cut (a ++ c :: b) [c] = (a, b, true) := by
 rcases idx_cases c (a ++ c :: b) with ⟨_, h1⟩ | ⟨a', b', e, h2, h3⟩
 ·exact absurd (by simp) h1
 ·have e1 := congrArg (splitL c) e
  rw [splitL_hit c a b h, splitL_hit c a' b' h2] at e1
  injection e1 with e1 _
  subst e1
  unfold Lib.cut
  rw [h3, if_pos (by omega), Int.toNat_natCast, List.take_left, ← List.drop_drop, List.drop_left]
  rfl
end Go.Proofs.YtinmmnljicmppaaDoor.Str
namespace Go.Proofs.YtinmmnljicmppaaDoor.Str
open Go
set_option linter.unusedVariables false
set_option linter.unusedSimpArgs false
def numP (l : List UInt8) : Nat × Bool := match Lib.parseUintB 64 l with
 | .ok u => (u, decide (Lib.decDigits u = l))
 | .«syntax» => (0, false)
 | .range => (18446744073709551615, false)
theorem numP_dec (n : Nat) (h : n < 18446744073709551616) : numP (Lib.decDigits n) = (n, true) := by
 unfold numP; rw [parseB_dec n h]; simp
theorem parseM_lt (M : Nat) : ∀ (l : List UInt8) (acc u : Nat), acc ≤ M → Lib.parseUintM M acc l = .ok u → u ≤ M
 | [], acc, u, ha, h => by have : acc = u := by simpa [Lib.parseUintM] using h
                           omega
 | c :: r, acc, u, ha, h => by
  simp only [Lib.parseUintM] at h
  split at h
  ·split at h
   ·cases h
   ·split at h
    ·cases h
    ·exact parseM_lt M r _ u (by omega) h
  ·cases h
theorem numP_lt (l : List UInt8) : (numP l).1 < 18446744073709551616 := by
 unfold numP Lib.parseUintB
 split
 ·rename_i u hu
  split at hu
  ·cases hu
  ·have := parseM_lt _ l 0 u (by omega) hu
   show u < _
   omega
 ·show 0 < 18446744073709551616; omega
 ·show 18446744073709551615 < 18446744073709551616; omega
theorem dec_len20 (n : Nat) (h : n < 18446744073709551616) : (Lib.decDigits n).length ≤ 20 := by
 have : ∀ k n, n < 10 ^ (k + 1) → (Lib.decDigits n).length ≤ k + 1 := by
  intro k
  induction k with
  | zero => intro n h; rw [Lib.decDigits_one (by simpa using h)]; exact Nat.le_refl _
  | succ k ih =>
   intro n h
   by_cases h10 : n < 10
   ·rw [Lib.decDigits_one h10]; simp
   ·rw [Lib.decDigits, dif_neg h10, List.length_append]
    have := ih (n / 10) (by rw [Nat.pow_succ] at h; omega)
    simp; omega
 exact this 19 n (by have : (10 : Nat) ^ (19 + 1) = 100000000000000000000 := by decide
                     omega)
end Go.Proofs.YtinmmnljicmppaaDoor.Str
namespace Go.Proofs.YtinmmnljicmppaaDoor.Str
open Go
set_option linter.unusedVariables false
set_option linter.unusedSimpArgs false
theorem dropWhile_le {α : Type} (p : α → Bool) : ∀ l : List α, (l.dropWhile p).length ≤ l.length
 | [] => Nat.le_refl _
 | x :: r => by
  rw [List.dropWhile_cons]
  split
  ·have := dropWhile_le p r; simp; omega
  ·exact Nat.le_refl _
def runs : List Int → List (Int × Nat)
 | [] => []
 | x :: r => (x, 1 + (r.takeWhile (fun y => y == x)).length) :: runs (r.dropWhile (fun y => y == x))
 termination_by l => l.length
 decreasing_by have := dropWhile_le (fun y => y == x) r; simp; omega
def unrun (rs : List (Int × Nat)) : List Int := rs.flatMap (fun q => List.replicate q.2 q.1)
theorem runs_nil : runs [] = [] := by rw [runs]
theorem runs_cons (x : Int) (r : List Int) : runs (x :: r) = (x, 1 + (r.takeWhile (fun y => y == x)).length) :: runs (r.dropWhile (fun y => y == x)) := by rw [runs]
theorem takeWhile_eq_rep (x : Int) : ∀ r : List Int, r.takeWhile (fun y => y == x) = List.replicate (r.takeWhile (fun y => y == x)).length x
 | [] => rfl
 | y :: r => by
  rw [List.takeWhile_cons]
  split
  ·rename_i h
   have := takeWhile_eq_rep x r
   rw [List.length_cons, List.replicate_succ, ← this, show y = x by simpa using h]
  ·rfl
theorem unrun_runs : ∀ (k : Nat) (l : List Int), l.length ≤ k → unrun (runs l) = l := by
 intro k
 induction k with
 | zero => intro l h; have : l = [] := List.eq_nil_of_length_eq_zero (by omega)
           subst this; rw [runs_nil]; rfl
 | succ k ih =>
  intro l h
  cases l with
  | nil => rw [runs_nil]; rfl
  | cons x r =>
   rw [runs_cons]
   have h1 := dropWhile_le (fun y => y == x) r
   have h2 := ih (r.dropWhile (fun y => y == x)) (by simp at h; omega)
   unfold unrun at h2 ⊢
   rw [List.flatMap_cons, h2]
   show List.replicate (1 + _) x ++ _ = _
   rw [Nat.add_comm, List.replicate_succ, List.cons_append, ← takeWhile_eq_rep, List.takeWhile_append_dropWhile]
theorem unrun_len (rs : List (Int × Nat)) : (unrun rs).length = (rs.map (·.2)).sum := by
 unfold unrun
 induction rs with
 | nil => rfl
 | cons q r ih => rw [List.flatMap_cons, List.length_append, List.length_replicate, ih]; rfl
def pickWord (q : Int × Nat) : List UInt8 := Lib.decDigits q.1.toNat ++ (if 1 < q.2 then 42 :: Lib.decDigits q.2 else [])
theorem dec_no (n : Nat) (c : UInt8) (h : c.toNat < 48 ∨ 57 < c.toNat) : c ∉ Lib.decDigits n := fun hc => by
 have := dec_digits n c hc; omega
theorem cut_word (q : Int × Nat) : Lib.cut (pickWord q) [42] = if 1 < q.2 then (Lib.decDigits q.1.toNat, Lib.decDigits q.2, true) else (Lib.decDigits q.1.toNat, [], false) := by
 unfold pickWord
 split
 ·exact cut_hit 42 _ _ (dec_no _ _ (by decide))
 ·rw [List.append_nil, cut_miss 42 _ (dec_no _ _ (by decide))]
theorem split_word (q : Int × Nat) : splitL 42 (pickWord q) = if 1 < q.2 then [Lib.decDigits q.1.toNat, Lib.decDigits q.2] else [Lib.decDigits q.1.toNat] := by
 unfold pickWord
 split
 ·rw [splitL_hit 42 _ _ (dec_no _ _ (by decide)), splitL_miss 42 _ (dec_no _ _ (by decide))]
 ·rw [List.append_nil, splitL_miss 42 _ (dec_no _ _ (by decide))]
theorem word_clean (q : Int × Nat) (c : UInt8) (h : c.toNat < 48 ∨ 57 < c.toNat) (h2 : c ≠ 42) : c ∉ pickWord q := by
 unfold pickWord
 intro hc
 rcases List.mem_append.1 hc with h1 | h1
 ·exact dec_no _ _ h h1
 ·split at h1
  ·rcases List.mem_cons.1 h1 with rfl | h1
   ·exact h2 rfl
   ·exact dec_no _ _ h h1
  ·cases h1
def picksB : List UInt8 := [112, 105, 99, 107, 115]
def picksLine (l : List Int) : List UInt8 := Lib.join (picksB :: (runs l).map pickWord) [32]
theorem picks_split (l : List Int) : splitL 32 (picksLine l) = picksB :: (runs l).map pickWord := by
 unfold picksLine
 refine splitL_join 32 _ (by simp) (fun w hw => ?_)
 rcases List.mem_cons.1 hw with rfl | hw
 ·decide
 ·obtain ⟨q, _, rfl⟩ := List.mem_map.1 hw
  exact word_clean q 32 (by decide) (by decide)
end Go.Proofs.YtinmmnljicmppaaDoor.Str
