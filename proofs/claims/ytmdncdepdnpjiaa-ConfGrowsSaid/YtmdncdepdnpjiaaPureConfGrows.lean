/-
Of every structure and number of threads: more slots, levels and threads are given more time. No condition beyond the row's own.
-/
import Derived.Test.YtmdncdepdnpjiaaTConfGrows
import Derived.Test.YtmdncdepdnpjiaaWords
namespace Go.Proofs.Ytmdncdepdnpjiaa.PConfGrows
open Go Go.RowKit Go.Proofs.YtmdncdepdnpjiaaW.PrintWords Go.Proofs.YtmdncdepdnpjiaaW.PrintLast Go.Proofs.YtmdncdepdnpjiaaW.PrintMore Go.Proofs.Ytmdncdepdnpjiaa.U
set_option linter.unusedVariables false
/-- The error of a structure. -/
def CheckV (a b c d e : Int) : Int :=
  if a < 1 ∨ 3 < a then 8
  else if b < 1 ∨ 8388607 < b ∨ e < 2 ∨ 1099511627775 < e ∨ (a = 2 ∧ (c < 1 ∨ 64 < c)) ∨ (a ≠ 2 ∧ c ≠ 0) ∨ (a = 3 ∧ (d < 1 ∨ 16 < d)) ∨ (a ≠ 3 ∧ d ≠ 1) then 3 else 0
theorem within_f (a b c : Int) : conf_within.f a b c = some (decide (b ≤ a ∧ a ≤ c)) := by
  unfold conf_within.f
  by_cases h : a ≥ b
  · rw [if_pos h]; simp [h]
  · rw [if_neg h]; simp; omega
theorem check_f {k : Nat} (hk : 1 ≤ k) (a b c d e : Int) : conf_Check.f k a b c d e = some (CheckV a b c d e) := by
  obtain ⟨k, rfl⟩ : ∃ m, k = m + 1 := ⟨k - 1, by omega⟩
  unfold conf_Check.f conf_sizes.f
  simp only [within_f]
  by_cases h1 : a = 1
  · subst h1
    simp only [if_true, Option.bind_some, conf_Check.j0, within_f, CheckV]
    grind
  · by_cases h2 : a = 2
    · subst h2
      simp only [if_true, Option.bind_some, conf_Check.j0, within_f, CheckV]
      grind
    · by_cases h3 : a = 3
      · subst h3
        simp only [if_true, Option.bind_some, conf_Check.j0, within_f, CheckV]
        grind
      · simp only [h1, h2, h3, if_false, Option.bind_some, Bool.false_eq_true, CheckV]
        rw [if_pos (by omega)]
theorem check_zero {a b c d e : Int} (h : CheckV a b c d e = 0) : (a = 1 ∨ a = 2 ∨ a = 3) ∧ 1 ≤ b ∧ b ≤ 8388607 ∧ 2 ≤ e ∧ e ≤ 1099511627775 ∧ (a = 2 → 1 ≤ c ∧ c ≤ 64) ∧ (a ≠ 2 → c = 0) ∧ (a = 3 → 1 ≤ d ∧ d ≤ 16) ∧ (a ≠ 3 → d = 1) := by
  unfold CheckV at h
  split at h
  · omega
  · split at h
    · omega
    · omega
theorem check_cases (a b c d e : Int) : CheckV a b c d e = 0 ∨ CheckV a b c d e = 3 ∨ CheckV a b c d e = 8 := by
  unfold CheckV
  split
  · omega
  · split <;> omega
end Go.Proofs.Ytmdncdepdnpjiaa.PConfGrows
namespace Go.Proofs.Ytmdncdepdnpjiaa.PConfGrows
open Go Go.RowKit Go.Proofs.YtmdncdepdnpjiaaW.PrintWords Go.Proofs.YtmdncdepdnpjiaaW.PrintLast Go.Proofs.YtmdncdepdnpjiaaW.PrintMore Go.Proofs.Ytmdncdepdnpjiaa.U
theorem modn (n : Int) (m : Int) (h0 : 1 ≤ m) (h1 : m ≤ 9000000) : wrap64 (1 + wrap64 (Int.tmod (IntKind.u64.wrap n) m)) = 1 + n % 18446744073709551616 % m := by
  have h : 0 ≤ IntKind.u64.wrap n := by rw [wrapU_mod]; omega
  have h2 : 0 ≤ n % 18446744073709551616 % m := Int.emod_nonneg _ (by omega)
  have h3 : n % 18446744073709551616 % m < m := Int.emod_lt_of_pos _ (by omega)
  rw [tmod_pos h, wrapU_mod, w64 (x := n % 18446744073709551616 % m) (by omega) (by omega), w64 (by omega) (by omega)]
/-- What a window and a thread alone come to. -/
def win (t s h : Nat) : Nat := 64 * t * t * t * s * h * h
def alone (s h : Nat) : Nat := 64 * s * h
theorem mul_le {a b c d : Nat} (h : a ≤ c) (k : b ≤ d) : a * b ≤ c * d := Nat.mul_le_mul h k
theorem win_num {S h t : Nat} (hS : S ≤ 8388611) (hh : h ≤ 17) (ht : t ≤ 66) :
    wrap64 (wrap64 (wrap64 (wrap64 (wrap64 (wrap64 (64 * (t : Int)) * (t : Int)) * (t : Int)) * (S : Int)) * (h : Int)) * (h : Int)) = (win t S h : Int) := by
  have b1 : 64 * t ≤ 64 * 66 := Nat.mul_le_mul_left _ ht
  have b2 : 64 * t * t ≤ 64 * 66 * 66 := Nat.mul_le_mul b1 ht
  have b3 : 64 * t * t * t ≤ 64 * 66 * 66 * 66 := Nat.mul_le_mul b2 ht
  have b4 : 64 * t * t * t * S ≤ 64 * 66 * 66 * 66 * 8388611 := Nat.mul_le_mul b3 hS
  have b5 : 64 * t * t * t * S * h ≤ 64 * 66 * 66 * 66 * 8388611 * 17 := Nat.mul_le_mul b4 hh
  have b6 : 64 * t * t * t * S * h * h ≤ 64 * 66 * 66 * 66 * 8388611 * 17 * 17 := Nat.mul_le_mul b5 hh
  have wn : ∀ n : Nat, n ≤ 64 * 66 * 66 * 66 * 8388611 * 17 * 17 → wrap64 (n : Int) = (n : Int) := fun n hn => w64 (by omega) (by omega)
  unfold win
  have c : ∀ a b : Nat, (a : Int) * (b : Int) = ((a * b : Nat) : Int) := fun a b => (Int.natCast_mul a b).symm
  have e0 : (64 : Int) = ((64 : Nat) : Int) := rfl
  rw [e0, c, wn _ (by omega), c, wn _ (by omega), c, wn _ (by omega), c, wn _ (by omega), c, wn _ (by omega), c, wn _ (by omega)]
theorem alone_num {S h : Nat} (hS : S ≤ 8388613) (hh : h ≤ 17) : wrap64 (wrap64 (64 * (S : Int)) * (h : Int)) = (alone S h : Int) := by
  have b1 : 64 * S ≤ 64 * 8388613 := Nat.mul_le_mul_left _ hS
  have b2 : 64 * S * h ≤ 64 * 8388613 * 17 := Nat.mul_le_mul b1 hh
  have wn : ∀ n : Nat, n ≤ 64 * 8388613 * 17 → wrap64 (n : Int) = (n : Int) := fun n hn => w64 (by omega) (by omega)
  unfold alone
  have c : ∀ a b : Nat, (a : Int) * (b : Int) = ((a * b : Nat) : Int) := fun a b => (Int.natCast_mul a b).symm
  have e0 : (64 : Int) = ((64 : Nat) : Int) := rfl
  rw [e0, c, wn _ (by omega), c, wn _ (by omega)]
theorem lt_mul {a b c : Nat} (h : a < b) (hc : 0 < c) : a * c < b * c := (Nat.mul_lt_mul_right hc).2 h
theorem win_slots {t s h : Nat} (ht : 0 < t) (hh : 0 < h) : win t s h < win t (s + 1) h := by
  unfold win
  have p : 0 < 64 * t * t * t := Nat.mul_pos (Nat.mul_pos (Nat.mul_pos (by omega) ht) ht) ht
  exact lt_mul (lt_mul (Nat.mul_lt_mul_of_pos_left (by omega) p) hh) hh
theorem win_height {t s h : Nat} (ht : 0 < t) (hs : 0 < s) (hh : 0 < h) : win t s h < win t s (h + 1) := by
  unfold win
  have p : 0 < 64 * t * t * t * s := Nat.mul_pos (Nat.mul_pos (Nat.mul_pos (Nat.mul_pos (by omega) ht) ht) ht) hs
  exact Nat.lt_of_lt_of_le (lt_mul (Nat.mul_lt_mul_of_pos_left (by omega) p) hh) (Nat.mul_le_mul_left _ (by omega))
theorem win_threads {t s h : Nat} (ht : 0 < t) (hs : 0 < s) (hh : 0 < h) : win t s h < win (t + 1) s h := by
  unfold win
  refine lt_mul (lt_mul (lt_mul ?_ hs) hh) hh
  have a1 : 64 * t < 64 * (t + 1) := by omega
  have a2 : 64 * t * t < 64 * (t + 1) * (t + 1) := Nat.lt_of_lt_of_le (lt_mul a1 ht) (Nat.mul_le_mul_left _ (by omega))
  exact Nat.lt_of_lt_of_le (lt_mul a2 ht) (Nat.mul_le_mul_left _ (by omega))
theorem alone_win {t s h : Nat} (ht : 2 ≤ t) (hs : 0 < s) (hh : 0 < h) : alone (s + 2) h < win t s h := by
  have p : win 2 s h ≤ win t s h := by
    unfold win
    refine Nat.mul_le_mul_right _ (Nat.mul_le_mul_right _ (Nat.mul_le_mul_right _ ?_))
    exact Nat.mul_le_mul (Nat.mul_le_mul (Nat.mul_le_mul_left _ ht) ht) ht
  refine Nat.lt_of_lt_of_le ?_ p
  unfold alone win
  have e : 64 * 2 * 2 * 2 * s * h * h = (512 * s * h) * h := by simp
  have q : 64 * (s + 2) * h < 512 * s * h := lt_mul (by omega) hh
  have r : 512 * s * h ≤ 64 * 2 * 2 * 2 * s * h * h := Nat.le_mul_of_pos_right _ hh
  omega
theorem awake_20 : revenantlaw03_awake.f 20 = some true := by decide +kernel
theorem window_f {s h t : Int} (hc : CheckV 3 s 0 h 5 = 0) (h1 : 1 ≤ t) (h2 : t ≤ 64) : conf_Window.f 20 3 s 0 h 5 t = some ((win (t.toNat + 1) (s.toNat + 2) (h.toNat + 1) : Int), true) := by
  have z := check_zero hc
  unfold conf_Window.f
  rw [check_f (by omega), hc, within_f]
  simp only [bsome, if_true]
  rw [decide_eq_true ⟨h1, h2⟩, w64 (x := t + 1) (by omega) (by omega), w64 (x := s + 2) (by omega) (by omega), w64 (x := h + 1) (by omega) (by omega)]
  simp only [if_true]
  have e1 : t + 1 = ((t.toNat + 1 : Nat) : Int) := by omega
  have e2 : s + 2 = ((s.toNat + 2 : Nat) : Int) := by omega
  have e3 : h + 1 = ((h.toNat + 1 : Nat) : Int) := by omega
  rw [e1, e2, e3, win_num (by omega) (by omega) (by omega)]
theorem alone_f {s h : Int} (hc : CheckV 3 s 0 h 5 = 0) : conf_Alone.f 20 3 s 0 h 5 = some (alone (s.toNat + 4) (h.toNat + 1) : Int) := by
  have z := check_zero hc
  unfold conf_Alone.f
  rw [check_f (by omega), hc]
  simp only [bsome, if_true]
  rw [w64 (x := s + 4) (by omega) (by omega), w64 (x := h + 1) (by omega) (by omega)]
  have e2 : s + 4 = ((s.toNat + 4 : Nat) : Int) := by omega
  have e3 : h + 1 = ((h.toNat + 1 : Nat) : Int) := by omega
  rw [e2, e3, alone_num (by omega) (by omega)]
theorem grows (a b c : Int) : revenantlaw03_ConfGrows.f 20 a b c = some true := by
  unfold revenantlaw03_ConfGrows.f
  rw [awake_20, modn a 8388606 (by decide) (by decide), modn b 15 (by decide) (by decide), modn c 63 (by decide) (by decide)]
  have s0 : 0 ≤ a % 18446744073709551616 % 8388606 ∧ a % 18446744073709551616 % 8388606 < 8388606 := by omega
  have h0 : 0 ≤ b % 18446744073709551616 % 15 ∧ b % 18446744073709551616 % 15 < 15 := by omega
  have t0 : 0 ≤ c % 18446744073709551616 % 63 ∧ c % 18446744073709551616 % 63 < 63 := by omega
  generalize a % 18446744073709551616 % 8388606 = S at *
  generalize b % 18446744073709551616 % 15 = H at *
  generalize c % 18446744073709551616 % 63 = T at *
  simp only [bsome, if_true]
  have c1 : CheckV 3 (1 + S) 0 (1 + H) 5 = 0 := by unfold CheckV; rw [if_neg (by omega), if_neg (by omega)]
  have c2 : CheckV 3 (1 + S + 1) 0 (1 + H) 5 = 0 := by unfold CheckV; rw [if_neg (by omega), if_neg (by omega)]
  have c3 : CheckV 3 (1 + S) 0 (1 + H + 1) 5 = 0 := by unfold CheckV; rw [if_neg (by omega), if_neg (by omega)]
  rw [w64 (x := 1 + S + 1) (by omega) (by omega), w64 (x := 1 + H + 1) (by omega) (by omega), w64 (x := 1 + T + 1) (by omega) (by omega)]
  rw [window_f c1 (by omega) (by omega), window_f c2 (by omega) (by omega), window_f c3 (by omega) (by omega), window_f c1 (by omega) (by omega), alone_f c1, alone_f c2, alone_f c3]
  simp only [bsome, if_true]
  have n1 : (1 + S + 1).toNat = (1 + S).toNat + 1 := by omega
  have n2 : (1 + H + 1).toNat = (1 + H).toNat + 1 := by omega
  have n3 : (1 + T + 1).toNat = (1 + T).toNat + 1 := by omega
  rw [n1, n2, n3]
  have m1 : 1 ≤ (1 + S).toNat := by omega
  have m2 : 1 ≤ (1 + H).toNat := by omega
  have m3 : 1 ≤ (1 + T).toNat := by omega
  generalize (1 + S).toNat = s at *
  generalize (1 + H).toNat = h at *
  generalize (1 + T).toNat = t at *
  have q1 := win_slots (t := t + 1) (s := s + 2) (h := h + 1) (by omega) (by omega)
  have q2 := win_height (t := t + 1) (s := s + 2) (h := h + 1) (by omega) (by omega) (by omega)
  have q3 := win_threads (t := t + 1) (s := s + 2) (h := h + 1) (by omega) (by omega) (by omega)
  have q4 := alone_win (t := t + 1) (s := s + 2) (h := h + 1) (by omega) (by omega) (by omega)
  have q5 : alone (s + 4) (h + 1) < alone (s + 1 + 4) (h + 1) := by unfold alone; exact lt_mul (by omega) (by omega)
  have q6 : alone (s + 4) (h + 1) < alone (s + 4) (h + 1 + 1) := by unfold alone; exact Nat.mul_lt_mul_of_pos_left (by omega) (by omega)
  have q7 : 0 < alone (s + 4) (h + 1) := by unfold alone; exact Nat.mul_pos (by omega) (by omega)
  have r1 : s + 1 + 2 = s + 2 + 1 := by omega
  have r2 : s + 2 + 2 = s + 4 := by omega
  rw [r1]
  rw [r2] at q4
  rw [if_pos (by omega), if_pos (by omega), if_pos (by omega), if_pos (by omega), if_pos (by omega), if_pos (by omega), if_pos (by omega)]
  simp
  omega
end Go.Proofs.Ytmdncdepdnpjiaa.PConfGrows
namespace Go.Proofs.Ytmdncdepdnpjiaa.Pure
open Go Go.RowKit Go.Proofs.Ytmdncdepdnpjiaa.PConfGrows
theorem RConfGrows (a b c : Int) (_ : (Lit.int .i64 a).wf = true) (_ : (Lit.int .i64 b).wf = true) (_ : (Lit.int .i64 c).wf = true) :
    ∃ k, revenantlaw03_ConfGrows.f k a b c = some true := ⟨20, grows _ _ _⟩
end Go.Proofs.Ytmdncdepdnpjiaa.Pure
