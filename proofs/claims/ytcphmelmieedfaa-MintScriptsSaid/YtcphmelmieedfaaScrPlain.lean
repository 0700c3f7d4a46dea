/-
What is drawn of a seed, and what is not.
-/
import Derived.Test.YtcphmelmieedfaaScrMint
namespace Go.Proofs.Ytcphmelmieedfaa.PMintScripts
open Go Go.RowKit Go.Proofs.YtcphmelmieedfaaW.PrintWords Go.Proofs.YtcphmelmieedfaaW.PrintLast Go.Proofs.YtcphmelmieedfaaW.PrintMore Go.Proofs.Ytcphmelmieedfaa.U
set_option linter.unusedVariables false
theorem pk_same (th n run : Int) (r0 : 1 ≤ run) (r1 : run ≤ 2147483648) : ∀ (q1 q2 : Nat) (o : List Int) (c : BitVec 64), n - o.length ≤ q1 → n - o.length ≤ q2 → pk th n run q1 o c = pk th n run q2 o c := by
  intro q1
  induction q1 with
  | zero =>
    intro q2 o c h1 h2
    cases q2 with
    | zero => rfl
    | succ q2 =>
      show (o, c) = (if (o.length : Int) < n then _ else _)
      rw [if_neg (by omega)]
  | succ q1 ih1 =>
    intro q2 o c h1 h2
    cases q2 with
    | zero =>
      show (if (o.length : Int) < n then _ else _) = (o, c)
      rw [if_neg (by omega)]
    | succ q2 =>
      show (if (o.length : Int) < n then _ else _) = (if (o.length : Int) < n then _ else _)
      by_cases ho : (o.length : Int) < n
      · have hrr := bel_range (stp c) r0 r1
        rw [if_pos ho, if_pos ho]
        exact ih1 q2 _ _ (by rw [List.length_append, List.length_replicate]; omega) (by rw [List.length_append, List.length_replicate]; omega)
      · rw [if_neg ho, if_neg ho]
theorem picks_m (th n run : Int) (t0 : 1 ≤ th) (t1 : th ≤ 64) (n1 : n ≤ 1000) (r0 : 1 ≤ run) (r1 : run ≤ 2147483648) : ∀ (q k : Nat) (out : List Int) (b : BitVec 64), n - out.length ≤ q → out.length ≤ 1000 → 3 * q + 10 ≤ k →
    mint_Mint_Picks.l0 k th n run out (I b) = some ((pk th n run q out b).1, I (pk th n run q out b).2) := by
  intro q
  induction q using Nat.strongRecOn with
  | ind q ih =>
    intro k out b hq hl hk
    obtain ⟨k, rfl⟩ : ∃ m, k = m + 1 := ⟨k - 1, by omega⟩
    by_cases h : (out.length : Int) < n
    · obtain ⟨q, rfl⟩ : ∃ m, q = m + 1 := ⟨q - 1, by omega⟩
      have hr := bel_range (stp b) r0 r1
      obtain ⟨m, hm⟩ : ∃ m : Nat, (m : Int) = min (1 + bel (stp b) run) (n - out.length) := ⟨(min (1 + bel (stp b) run) (n - out.length)).toNat, by omega⟩
      have hm1 : 1 ≤ m := by omega
      have ep : pk th n run (q + 1) out b = pk th n run q (out ++ List.replicate m (bel b th)) (stp (stp b)) := by
        show (if (out.length : Int) < n then _ else _) = _
        rw [if_pos h, ← hm, Int.toNat_natCast]
      have hmx : ∀ a c : Int, mn a c = min a c := fun a c => by unfold mn; omega
      have hlen : (out ++ List.replicate m (bel b th)).length = out.length + m := by rw [List.length_append, List.length_replicate]
      obtain ⟨k2, hk2⟩ : ∃ k2, k = k2 + m + 1 ∧ 3 * (q + 1 - m) + 10 ≤ k2 := ⟨k - m - 1, by omega, by omega⟩
      have hpk : pk th n run q (out ++ List.replicate m (bel b th)) (stp (stp b)) = pk th n run (q + 1 - m) (out ++ List.replicate m (bel b th)) (stp (stp b)) :=
        pk_same th n run r0 r1 _ _ _ _ (by rw [hlen]; omega) (by rw [hlen]; omega)
      have hih := ih (q + 1 - m) (by omega) k2 (out ++ List.replicate m (bel b th)) (stp (stp b)) (by rw [hlen]; omega) (by rw [hlen]; omega) hk2.2
      rw [ep, hpk]
      simp only [mint_Mint_Picks.l0]
      rw [if_pos h, below_f b t0 (by omega), bsome, below_f (stp b) r0 r1, bsome, w64 (by omega) (by omega), w64 (by omega) (by omega), hmx, ← hm, hk2.1, ml1 th n run (bel b th) m (by omega) m k2 out 0 (I (stp (stp b))) (by omega) (by omega) (by omega)]
      exact hih
    · have ep : pk th n run q out b = (out, b) := by
        cases q with
        | zero => rfl
        | succ q =>
          show (if (out.length : Int) < n then _ else _) = _
          rw [if_neg h]
      rw [ep]
      simp only [mint_Mint_Picks.l0]
      rw [if_neg h]
/-- All picks are of threads. -/
theorem pk_mem (th n run : Int) (t0 : 1 ≤ th) (t1 : th ≤ 64) : ∀ (q : Nat) (out : List Int) (b : BitVec 64), (∀ x ∈ out, 0 ≤ x ∧ x < th) → ∀ x ∈ (pk th n run q out b).1, 0 ≤ x ∧ x < th := by
  intro q
  induction q with
  | zero => intro out b h; exact h
  | succ q ih =>
    intro out b h
    show ∀ x ∈ (if (out.length : Int) < n then _ else _ : List Int × BitVec 64).1, _
    split
    · refine ih _ _ ?_
      intro x hx
      rcases List.mem_append.mp hx with hx | hx
      · exact h x hx
      · rw [(List.mem_replicate.mp hx).2]
        exact bel_range b t0 (by omega)
    · exact h
theorem pk_len (th n run : Int) (r0 : 1 ≤ run) (r1 : run ≤ 2147483648) : ∀ (q : Nat) (out : List Int) (b : BitVec 64), out.length ≤ n → n - out.length ≤ q → ((pk th n run q out b).1.length : Int) = n := by
  intro q
  induction q with
  | zero => intro out b h h2; show ((out.length : Nat) : Int) = n; omega
  | succ q ih =>
    intro out b h h2
    show (((if (out.length : Int) < n then _ else _ : List Int × BitVec 64).1.length : Nat) : Int) = n
    split
    · have hr := bel_range (stp b) r0 r1
      exact ih _ _ (by rw [List.length_append, List.length_replicate]; omega) (by rw [List.length_append, List.length_replicate]; omega)
    · show ((out.length : Nat) : Int) = n
      omega
theorem pk_out (th n run : Int) : ∀ (q : Nat) (out : List Int) (b : BitVec 64), out <+: (pk th n run q out b).1 := by
  intro q
  induction q with
  | zero => intro out b; exact List.prefix_refl _
  | succ q ih =>
    intro out b
    show out <+: (if (out.length : Int) < n then _ else _ : List Int × BitVec 64).1
    split
    · exact List.IsPrefix.trans (List.prefix_append _ _) (ih _ _)
    · exact List.prefix_refl _
/-- Fewer picks begin them. -/
theorem pk_pre (th n m run : Int) (hmn : m ≤ n) (r0 : 1 ≤ run) (r1 : run ≤ 2147483648) : ∀ (q : Nat) (out : List Int) (b : BitVec 64), m - out.length ≤ q → n - out.length ≤ q → (pk th m run q out b).1 <+: (pk th n run q out b).1 := by
  intro q
  induction q with
  | zero => intro out b _ _; exact List.prefix_refl _
  | succ q ih =>
    intro out b h1 h2
    by_cases hm : (out.length : Int) < m
    · have em : pk th m run (q + 1) out b = pk th m run q (out ++ List.replicate (min (1 + bel (stp b) run) (m - out.length)).toNat (bel b th)) (stp (stp b)) := if_pos hm
      have en : pk th n run (q + 1) out b = pk th n run q (out ++ List.replicate (min (1 + bel (stp b) run) (n - out.length)).toNat (bel b th)) (stp (stp b)) := if_pos (by omega)
      have hr := bel_range (stp b) r0 r1
      by_cases hb : 1 + bel (stp b) run ≤ m - out.length
      · rw [em, en, Int.min_eq_left hb, Int.min_eq_left (by omega : 1 + bel (stp b) run ≤ n - out.length)]
        exact ih _ _ (by rw [List.length_append, List.length_replicate]; omega) (by rw [List.length_append, List.length_replicate]; omega)
      · rw [em, en, Int.min_eq_right (by omega : m - out.length ≤ 1 + bel (stp b) run)]
        have hstop : ∀ (q : Nat) (c : BitVec 64), pk th m run q (out ++ List.replicate (m - out.length).toNat (bel b th)) c = (out ++ List.replicate (m - out.length).toNat (bel b th), c) := by
          intro q c
          cases q with
          | zero => rfl
          | succ q =>
            exact if_neg (by rw [List.length_append, List.length_replicate]; omega)
        rw [hstop]
        refine List.IsPrefix.trans ?_ (pk_out th n run q _ _)
        refine (List.prefix_append_right_inj out).mpr ?_
        obtain ⟨d, hd⟩ : ∃ d : Nat, (min (1 + bel (stp b) run) (n - out.length)).toNat = (m - out.length).toNat + d := ⟨(min (1 + bel (stp b) run) (n - out.length)).toNat - (m - out.length).toNat, by omega⟩
        rw [hd, ← List.replicate_append_replicate]
        exact List.prefix_append _ _
    · have em : pk th m run (q + 1) out b = (out, b) := if_neg hm
      rw [em]
      exact pk_out th n run _ _ _
/-- A row of ops out of a state. -/
def rowS (a h keys : Int) : Nat → BitVec 64 → List S37 × BitVec 64
  | 0, b => ([], b)
  | n + 1, b => (⟨(OpS b a h keys).1, (OpS b a h keys).2.1, (OpS b a h keys).2.2.1, (OpS b a h keys).2.2.2.1⟩ :: (rowS a h keys n (OpS b a h keys).2.2.2.2).1, (rowS a h keys n (OpS b a h keys).2.2.2.2).2)
def rowsS (a h keys : Int) (o : Nat) : Nat → BitVec 64 → List (List S37) × BitVec 64
  | 0, b => ([], b)
  | n + 1, b => ((rowS a h keys o b).1 :: (rowsS a h keys o n (rowS a h keys o b).2).1, (rowsS a h keys o n (rowS a h keys o b).2).2)
theorem rowS_len (a h keys : Int) : ∀ (n : Nat) (b : BitVec 64), (rowS a h keys n b).1.length = n := by
  intro n
  induction n with
  | zero => intro b; rfl
  | succ n ih => intro b; simp only [rowS, List.length_cons, ih]
theorem rowsS_len (a h keys : Int) (o : Nat) : ∀ (n : Nat) (b : BitVec 64), (rowsS a h keys o n b).1.length = n := by
  intro n
  induction n with
  | zero => intro b; rfl
  | succ n ih => intro b; simp only [rowsS, List.length_cons, ih]
theorem rowsS_mem (a h keys : Int) (o : Nat) : ∀ (n : Nat) (b : BitVec 64), ∀ r ∈ (rowsS a h keys o n b).1, ∃ c, r = (rowS a h keys o c).1 := by
  intro n
  induction n with
  | zero => intro b r hr; simp [rowsS] at hr
  | succ n ih =>
    intro b r hr
    simp only [rowsS, List.mem_cons] at hr
    rcases hr with rfl | hr
    · exact ⟨_, rfl⟩
    · exact ih _ _ hr
/-- An op that is drawn can be; its key is below the number that was told. -/
theorem op_ok (b : BitVec 64) (a0 a1 a2 a3 a4 keys : Int) (hc : CheckV a0 a1 a2 a3 a4 = 0) (h0 : 1 ≤ keys) (h1 : keys ≤ 2147483648) :
    OpV a0 a3 (OpS b a0 a3 keys).1 (OpS b a0 a3 keys).2.1 (OpS b a0 a3 keys).2.2.1 (OpS b a0 a3 keys).2.2.2.1 = 0 ∧ 0 ≤ (OpS b a0 a3 keys).2.1 ∧ (OpS b a0 a3 keys).2.1 < keys := by
  obtain ⟨ha, _, _, _, _, _, _, h3, h4⟩ := check_zero hc
  have hr := kindS_range b a0
  rw [show OpS b a0 a3 keys = OpT (kindS b a0).1 (kindS b a0).2 a0 a3 keys from rfl]
  generalize kindS b a0 = q at *
  obtain ⟨kd, b1⟩ := q
  simp only at hr ⊢
  have hb := bel_range b1 h0 h1
  by_cases k8 : kd = 8
  · rw [show OpT kd b1 a0 a3 keys = (8, 0, 0, 0, b1) from if_pos k8]
    refine ⟨?_, ?_, ?_⟩ <;> simp only
    · unfold OpV
      rw [if_pos (.inl rfl), if_pos (by omega), if_pos (by omega)]
    · omega
    · omega
  · by_cases k4 : kd = 4 ∨ kd = 5
    · rw [show OpT kd b1 a0 a3 keys = (kd, bel b1 keys, bel (stp b1) 100, 0, stp (stp b1)) from (if_neg k8).trans (if_pos k4)]
      refine ⟨?_, hb.1, hb.2⟩
      simp only
      unfold OpV
      rw [if_pos (by omega), if_pos (by omega), if_pos (by omega)]
    · by_cases k1 : kd = 1 ∧ a0 = 3
      · rw [show OpT kd b1 a0 a3 keys = (kd, bel b1 keys, 0, (lvl (a3 - 1).toNat a3 1 (stp b1)).1, (lvl (a3 - 1).toNat a3 1 (stp b1)).2) from (if_neg k8).trans ((if_neg k4).trans (if_pos k1))]
        refine ⟨?_, hb.1, hb.2⟩
        have h33 := h3 k1.2
        have hl := lvl_range a3 (a3 - 1).toNat 1 (stp b1) (by omega) (by omega)
        simp only
        generalize (lvl (a3 - 1).toNat a3 1 (stp b1)).1 = L at *
        unfold OpV
        rw [if_pos (by omega), if_pos (by omega), if_pos (by omega)]
      · rw [show OpT kd b1 a0 a3 keys = (kd, bel b1 keys, 0, 0, stp b1) from (if_neg k8).trans ((if_neg k4).trans (if_neg k1))]
        refine ⟨?_, hb.1, hb.2⟩
        simp only
        unfold OpV
        rw [if_pos (by omega), if_pos (by omega), if_pos (by omega)]
theorem rowS_succ (a h keys : Int) (n : Nat) (b : BitVec 64) : rowS a h keys (n + 1) b = (⟨(OpS b a h keys).1, (OpS b a h keys).2.1, (OpS b a h keys).2.2.1, (OpS b a h keys).2.2.2.1⟩ :: (rowS a h keys n (OpS b a h keys).2.2.2.2).1, (rowS a h keys n (OpS b a h keys).2.2.2.2).2) := rfl
theorem rowS_ok (a0 a1 a2 a3 a4 keys : Int) (hc : CheckV a0 a1 a2 a3 a4 = 0) (h0 : 1 ≤ keys) (h1 : keys ≤ 2147483648) : ∀ (n : Nat) (b : BitVec 64), ∀ x ∈ (rowS a0 a3 keys n b).1, opV1 a0 a3 x = 0 ∧ 0 ≤ x.f1 ∧ x.f1 < keys := by
  intro n
  induction n with
  | zero => intro b x hx; cases hx
  | succ n ih =>
    intro b x hx
    rw [rowS_succ] at hx
    have h := op_ok b a0 a1 a2 a3 a4 keys hc h0 h1
    have h2 := ih (OpS b a0 a3 keys).2.2.2.2
    generalize OpS b a0 a3 keys = r at h h2 hx
    obtain ⟨r1, r2, r3, r4, r5⟩ := r
    rcases List.mem_cons.mp hx with rfl | hx
    · exact h
    · exact h2 x hx
theorem opsGo_ok (a d t : Int) : ∀ (l : List S37) (i : Int), (∀ x ∈ l, opV1 a d x = 0) → opsGo a d t l i = (0, 0, 0) := by
  intro l
  induction l with
  | nil => intro i _; rfl
  | cons o os ih =>
    intro i h
    simp only [opsGo]
    rw [if_pos (h o (List.mem_cons_self ..))]
    exact ih _ fun x hx => h x (List.mem_cons_of_mem _ hx)
theorem opssV_ok (a d : Int) : ∀ (ls : List (List S37)) (i : Int), (∀ l ∈ ls, l.length ≤ 64 ∧ ∀ x ∈ l, opV1 a d x = 0) → opssV a d ls i = (0, 0, 0) := by
  intro ls
  induction ls with
  | nil => intro i _; rfl
  | cons l ls ih =>
    intro i h
    have h1 := h l (List.mem_cons_self ..)
    have e : opsV a d i l = (0, 0, 0) := by
      unfold opsV
      rw [if_neg (by omega)]
      exact opsGo_ok a d i l 0 h1.2
    simp only [opssV]
    rw [if_pos e]
    exact ih _ fun x hx => h x (List.mem_cons_of_mem _ hx)
theorem idxN_ok (m : Int) : ∀ (ps : List Int) (i : Int), (∀ x ∈ ps, 0 ≤ x ∧ x < m) → idxN m ps i = -1 := by
  intro ps
  induction ps with
  | nil => intro i _; rfl
  | cons p ps ih =>
    intro i h
    have h1 := h p (List.mem_cons_self ..)
    simp only [idxN]
    rw [if_neg (by omega)]
    exact ih _ fun x hx => h x (List.mem_cons_of_mem _ hx)
/-- What mint draws can be. -/
theorem drawn_ok (b c : BitVec 64) (a0 a1 a2 a3 a4 keys : Int) (t o q : Nat) (p : Int) (hc : CheckV a0 a1 a2 a3 a4 = 0) (h0 : 1 ≤ keys) (h1 : keys ≤ 2147483648) (ht : 1 ≤ t ∧ t ≤ 64) (ho : o ≤ 64) (hp : 0 ≤ p ∧ p ≤ 500) (hq : p ≤ q) :
    scV a0 a1 a2 a3 a4 (rowsS a0 a3 keys o t b).1 (pk t p 8 q [] c).1 = (0, 0, 0) := by
  have hl := rowsS_len a0 a3 keys o t b
  have hpl := pk_len t p 8 (by decide) (by decide) q [] c (by simp; omega) (by simp; omega)
  have e1 : opssV a0 a3 (rowsS a0 a3 keys o t b).1 0 = (0, 0, 0) := by
    refine opssV_ok a0 a3 _ 0 ?_
    intro l hl
    obtain ⟨c, rfl⟩ := rowsS_mem a0 a3 keys o t b l hl
    exact ⟨by rw [rowS_len]; exact ho, fun x hx => (rowS_ok a0 a1 a2 a3 a4 keys hc h0 h1 o c x hx).1⟩
  have e2 : idxN (rowsS a0 a3 keys o t b).1.length (pk t p 8 q [] c).1 0 = -1 := by
    refine idxN_ok _ _ 0 ?_
    rw [hl]
    exact pk_mem t p 8 (by omega) (by omega) q [] c (by simp)
  unfold scV
  rw [if_neg (by simp [hc]), if_neg (by omega), if_neg (by omega), if_neg (by simp [e1]), if_neg (by rw [e2]; decide)]
end Go.Proofs.Ytcphmelmieedfaa.PMintScripts

namespace Go.Proofs.Ytcphmelmieedfaa.PMintScripts
open Go Go.RowKit Go.Proofs.YtcphmelmieedfaaW.PrintWords Go.Proofs.YtcphmelmieedfaaW.PrintLast Go.Proofs.YtcphmelmieedfaaW.PrintMore Go.Proofs.Ytcphmelmieedfaa.U
set_option linter.unusedVariables false
theorem picks_f {k : Nat} (hk : 2000 ≤ k) (b : BitVec 64) (th n : Int) (t0 : 1 ≤ th) (t1 : th ≤ 64) (n0 : 0 ≤ n) (n1 : n ≤ 500) :
    mint_Mint_Picks.f k (I b) th n 8 = some ((pk th n 8 n.toNat [] b).1, I (pk th n 8 n.toNat [] b).2) := by
  obtain ⟨k, rfl⟩ : ∃ m, k = m + 1 := ⟨k - 1, by omega⟩
  unfold mint_Mint_Picks.f mint_isRange.f
  rw [if_pos (show th ≥ 1 from t0), bsome, decide_eq_true t1, if_pos rfl, if_pos (show n ≥ 0 from n0), bsome, decide_eq_true (by omega : n ≤ 262144), if_pos rfl, if_pos (by decide), bsome]
  have e : (!decide ((8 : Int) ≤ 2147483648)) = false := rfl
  rw [e]
  simp only [mint_Mint_Picks.j0, Bool.false_eq_true, if_false]
  exact picks_m th n 8 t0 t1 (by omega) (by decide) (by decide) n.toNat k [] b (by simp; omega) (by simp) (by omega)
theorem sl1 (t o keys p a0 a1 a2 a3 a4 i : Int) (c0 c1 c2 c3 c4 : Int) (xs : List (List S37)) (hx : xs.length ≤ 1000) (hc : CheckV a0 a1 a2 a3 a4 = 0) (h0 : 1 ≤ keys) (h1 : keys ≤ 2147483648) (ho : o ≤ 1000) : ∀ (m k : Nat) (row : List S37) (j : Int) (b : BitVec 64), 0 ≤ j → j + m = o → row.length + m ≤ 1000 → 1300 ≤ k →
    mint_Mint_Script.l1 (k + m + 1) t o keys p row t i o j (I b) a0 a1 a2 a3 a4 c0 c1 c2 c3 c4 xs = mint_Mint_Script.l0 k t o keys p t (wrap64 (i + 1)) (I (rowS a0 a3 keys m b).2) a0 a1 a2 a3 a4 c0 c1 c2 c3 c4 (xs ++ [row ++ (rowS a0 a3 keys m b).1]) := by
  intro m
  induction m with
  | zero =>
    intro k row j b g0 hj hl hk
    simp only [mint_Mint_Script.l1, rowS]
    rw [if_neg (by omega), if_pos (by omega), List.append_nil]
  | succ m ih =>
    intro k row j b g0 hj hl hk
    obtain ⟨K, hK⟩ : ∃ K, K = k + m + 1 := ⟨_, rfl⟩
    rw [show k + (m + 1) + 1 = K + 1 by omega]
    simp only [mint_Mint_Script.l1]
    rw [if_pos (by omega), op_f (by omega) b a0 a1 a2 a3 a4 keys hc h0 h1, bsome, if_pos (by omega), w64 (by omega) (by omega)]
    have e := ih k (row ++ [⟨(OpS b a0 a3 keys).1, (OpS b a0 a3 keys).2.1, (OpS b a0 a3 keys).2.2.1, (OpS b a0 a3 keys).2.2.2.1⟩]) (j + 1) (OpS b a0 a3 keys).2.2.2.2 (by omega) (by omega) (by rw [List.length_append, List.length_singleton]; omega) hk
    rw [hK]
    have er : rowS a0 a3 keys (m + 1) b = (⟨(OpS b a0 a3 keys).1, (OpS b a0 a3 keys).2.1, (OpS b a0 a3 keys).2.2.1, (OpS b a0 a3 keys).2.2.2.1⟩ :: (rowS a0 a3 keys m (OpS b a0 a3 keys).2.2.2.2).1, (rowS a0 a3 keys m (OpS b a0 a3 keys).2.2.2.2).2) := rfl
    rw [er]
    clear er
    generalize OpS b a0 a3 keys = r at e ⊢
    obtain ⟨r1, r2, r3, r4, r5⟩ := r
    simp only [Op5] at e ⊢
    refine Eq.trans e ?_
    simp only [List.append_assoc, List.cons_append, List.nil_append]
theorem sl0 (t p keys a0 a1 a2 a3 a4 : Int) (o : Nat) (c0 c1 c2 c3 c4 : Int) (hc : CheckV a0 a1 a2 a3 a4 = 0) (h0 : 1 ≤ keys) (h1 : keys ≤ 2147483648) (ho : o ≤ 64) (t0 : 1 ≤ t) (t1 : t ≤ 64) (p0 : 0 ≤ p) (p1 : p ≤ 500) : ∀ (m k : Nat) (xs : List (List S37)) (i : Int) (b : BitVec 64), 0 ≤ i → i + m = t → xs.length + m ≤ 1000 → 2500 + m * (o + 2) ≤ k →
    mint_Mint_Script.l0 k t o keys p t i (I b) a0 a1 a2 a3 a4 c0 c1 c2 c3 c4 xs = some (c0, c1, c2, c3, c4, xs ++ (rowsS a0 a3 keys o m b).1, (pk t p 8 p.toNat [] (rowsS a0 a3 keys o m b).2).1, 0, I (pk t p 8 p.toNat [] (rowsS a0 a3 keys o m b).2).2) := by
  intro m
  induction m with
  | zero =>
    intro k xs i b g0 hi hl hk
    obtain ⟨k, rfl⟩ : ∃ m, k = m + 1 := ⟨k - 1, by omega⟩
    simp only [mint_Mint_Script.l0, rowsS]
    rw [if_neg (by omega), picks_f (by omega) b t p t0 t1 p0 p1, bsome, List.append_nil]
  | succ m ih =>
    intro k xs i b g0 hi hl hk
    have hmul : (m + 1) * (o + 2) = m * (o + 2) + (o + 2) := Nat.succ_mul _ _
    obtain ⟨K, hK⟩ : ∃ K, k = K + o + 1 + 1 := ⟨k - o - 2, by omega⟩
    have hK2 : 2500 + m * (o + 2) ≤ K := by omega
    rw [hK]
    simp only [mint_Mint_Script.l0]
    rw [if_pos (by omega), sl1 t o keys p a0 a1 a2 a3 a4 i c0 c1 c2 c3 c4 xs (by omega) hc h0 h1 (by omega) o K [] 0 b (by omega) (by omega) (by simp; omega) (by omega), w64 (by omega) (by omega), ih K _ (i + 1) _ (by omega) (by omega) (by rw [List.length_append, List.length_singleton]; omega) hK2]
    simp only [rowsS, List.append_assoc, List.cons_append, List.nil_append]
/-- A script out of a state. -/
theorem script_f (b : BitVec 64) (a0 a1 a2 a3 a4 keys p : Int) (t o : Nat) (hc : CheckV a0 a1 a2 a3 a4 = 0) (h0 : 1 ≤ keys) (h1 : keys ≤ 2147483648) (ho : o ≤ 64) (t0 : 1 ≤ t) (t1 : t ≤ 64) (p0 : 0 ≤ p) (p1 : p ≤ 500) :
    mint_Mint_Script.f 8000 (I b) a0 a1 a2 a3 a4 t o keys p = some (a0, a1, a2, a3, a4, (rowsS a0 a3 keys o t b).1, (pk t p 8 p.toNat [] (rowsS a0 a3 keys o t b).2).1, 0, I (pk t p 8 p.toNat [] (rowsS a0 a3 keys o t b).2).2) := by
  obtain ⟨K, hK⟩ : ∃ K, 8000 = K + 1 := ⟨7999, rfl⟩
  have hK2 : 7999 ≤ K := by omega
  rw [hK]
  clear hK
  have hm : t * (o + 2) ≤ 64 * 66 := Nat.mul_le_mul t1 (by omega)
  have key := sl0 t p keys a0 a1 a2 a3 a4 o a0 a1 a2 a3 a4 hc h0 h1 ho (by omega) (by omega) p0 p1 t K [] 0 b (by omega) (by omega) (by simp; omega) (by omega)
  rw [List.nil_append] at key
  rw [← key]
  unfold mint_Mint_Script.f mint_isRange.f
  rw [check_f (by omega), hc, bsome, if_pos rfl, if_pos (show (t : Int) ≥ 1 by omega), bsome, decide_eq_true (show (t : Int) ≤ 64 by omega), if_pos rfl, if_pos (show (o : Int) ≥ 0 by omega), bsome, decide_eq_true (show (o : Int) ≤ 64 by omega), if_pos rfl, if_pos (show keys ≥ 1 from h0), bsome, decide_eq_true h1, if_pos rfl, if_pos (show p ≥ 0 from p0), bsome, decide_eq_true (show p ≤ 262144 by omega)]
  simp only [mint_Mint_Script.j0, Bool.not_true, Bool.false_eq_true, if_false]
theorem script_no (b : BitVec 64) (a0 a1 a2 a3 a4 keys p t o : Int) (hc : CheckV a0 a1 a2 a3 a4 ≠ 0) : mint_Mint_Script.f 8000 (I b) a0 a1 a2 a3 a4 t o keys p = some (0, 0, 0, 0, 0, [], [], CheckV a0 a1 a2 a3 a4, I b) := by
  unfold mint_Mint_Script.f
  rw [check_f (by omega), bsome, if_neg hc]
end Go.Proofs.Ytcphmelmieedfaa.PMintScripts

namespace Go.Proofs.Ytcphmelmieedfaa.PMintScripts
open Go Go.RowKit Go.Proofs.YtcphmelmieedfaaW.PrintWords Go.Proofs.YtcphmelmieedfaaW.PrintLast Go.Proofs.YtcphmelmieedfaaW.PrintMore Go.Proofs.Ytcphmelmieedfaa.U
set_option linter.unusedVariables false
theorem rpicks_f (b : BitVec 64) (th n : Int) (t0 : 1 ≤ th) (t1 : th ≤ 64) (n0 : 0 ≤ n) (n1 : n ≤ 500) :
    revenantref34_Mint_Picks.f 3000 (I b) th n 8 = some ((pk th n 8 n.toNat [] b).1, I (pk th n 8 n.toNat [] b).2) := by
  obtain ⟨K, hK⟩ : ∃ K, 3000 = K + 1 := ⟨2999, rfl⟩
  have hK2 : 2999 ≤ K := by omega
  rw [hK]
  clear hK
  unfold revenantref34_Mint_Picks.f
  rw [bsome, if_neg (show ¬ th < 1 by omega), if_neg (show ¬ th > 64 by omega), if_neg (show ¬ n < 0 by omega), if_neg (show ¬ n > 262144 by omega), if_neg (by decide)]
  have e : decide ((8 : Int) > 2147483648) = false := rfl
  rw [e]
  simp only [revenantref34_Mint_Picks.j0, Bool.false_eq_true, if_false]
  exact (picks_l th n 8 t0 t1 (by omega) (by decide) (by decide) n.toNat K [] b (by simp; omega) (by simp) (by omega)).2
theorem rop_step (b : BitVec 64) (c0 c1 c2 c3 c4 k : Int) (hc : CheckV c0 c1 c2 c3 c4 = 0) (h0 : 1 ≤ k) (h1 : k ≤ 2147483648) :
    ∃ p1 p2 p3 p4 b3, revenantref34_Mint_Op.f 1200 (I b) c0 c1 c2 c3 c4 k = some (p1, p2, p3, p4, I b3) ∧ ∀ n, rowS c0 c3 k (n + 1) b = (⟨p1, p2, p3, p4⟩ :: (rowS c0 c3 k n b3).1, (rowS c0 c3 k n b3).2) := by
  have e := rop34_f (by decide : 1200 ≤ 1200) b c0 c1 c2 c3 c4 k hc h0 h1
  have s := fun n => rowS_succ c0 c3 k n b
  generalize OpS b c0 c3 k = r at e s
  obtain ⟨p1, p2, p3, p4, b3⟩ := r
  exact ⟨p1, p2, p3, p4, b3, e, s⟩
def Rng (n0 n1 n2 n3 : Int) : Prop := (1 ≤ n0 ∧ n0 ≤ 64) ∧ (0 ≤ n1 ∧ n1 ≤ 64) ∧ (1 ≤ n2 ∧ n2 ≤ 2147483648) ∧ 0 ≤ n3 ∧ n3 ≤ 262144
theorem script_out (b : BitVec 64) (a0 a1 a2 a3 a4 n0 n1 n2 n3 : Int) (hc : CheckV a0 a1 a2 a3 a4 = 0) (hr : ¬ Rng n0 n1 n2 n3) : mint_Mint_Script.f 8000 (I b) a0 a1 a2 a3 a4 n0 n1 n2 n3 = some (0, 0, 0, 0, 0, [], [], 3, I b) := by
  obtain ⟨K, hK⟩ : ∃ K, 8000 = K + 1 := ⟨7999, rfl⟩
  have hK2 : 7999 ≤ K := by omega
  rw [hK]
  clear hK
  have jt : mint_Mint_Script.j0 (K + 1) n0 n1 n2 n3 true (I b) a0 a1 a2 a3 a4 = some (0, 0, 0, 0, 0, [], [], 3, I b) := by simp only [mint_Mint_Script.j0, if_true]
  unfold mint_Mint_Script.f mint_isRange.f
  rw [check_f (by omega), hc, bsome, if_pos rfl]
  unfold Rng at hr
  by_cases h1 : n0 ≥ 1
  · rw [if_pos h1, bsome]
    by_cases h2 : n0 ≤ 64
    · rw [decide_eq_true h2, if_pos rfl]
      by_cases h3 : n1 ≥ 0
      · rw [if_pos h3, bsome]
        by_cases h4 : n1 ≤ 64
        · rw [decide_eq_true h4, if_pos rfl]
          by_cases h5 : n2 ≥ 1
          · rw [if_pos h5, bsome]
            by_cases h6 : n2 ≤ 2147483648
            · rw [decide_eq_true h6, if_pos rfl]
              by_cases h7 : n3 ≥ 0
              · rw [if_pos h7, bsome, decide_eq_false (by omega)]
                exact jt
              · rw [if_neg h7, bsome]
                exact jt
            · rw [decide_eq_false h6, if_neg (by decide)]
              exact jt
          · rw [if_neg h5, bsome, if_neg (by decide)]
            exact jt
        · rw [decide_eq_false h4, if_neg (by decide)]
          exact jt
      · rw [if_neg h3, bsome, if_neg (by decide)]
        exact jt
    · rw [decide_eq_false h2, if_neg (by decide)]
      exact jt
  · rw [if_neg h1, bsome, if_neg (by decide)]
    exact jt
/-- What is known of a script that is drawn. -/
structure Got (b : BitVec 64) (c0 c1 c2 c3 c4 n0 n1 n2 n3 : Int) (r6 : List (List S37)) (r7 : List Int) (bE : BitVec 64) : Prop where
  hc : CheckV c0 c1 c2 c3 c4 = 0
  rng : Rng n0 n1 n2 n3
  le3 : n3 ≤ 500
  rows : rowsS c0 c3 n2 n1.toNat n0.toNat b = (r6, bE)
  picks : ∃ e, revenantref34_Mint_Picks.f 3000 (I bE) n0 n3 8 = some (r7, I e)
  sc : scV c0 c1 c2 c3 c4 r6 r7 = (0, 0, 0)
  len : r6.length = n0.toNat
  plen : (r7.length : Int) = n3
theorem scr_any (b : BitVec 64) (c0 c1 c2 c3 c4 n0 n1 n2 n3 : Int) (hn : n3 ≤ 500 ∨ 262144 < n3) :
    ∃ r1 r2 r3 r4 r5 r6 r7 r8 s1, mint_Mint_Script.f 8000 (I b) c0 c1 c2 c3 c4 n0 n1 n2 n3 = some (r1, r2, r3, r4, r5, r6, r7, r8, I s1) ∧
      ((CheckV c0 c1 c2 c3 c4 ≠ 0 ∧ r8 = CheckV c0 c1 c2 c3 c4 ∧ r1 = 0 ∧ r2 = 0 ∧ r3 = 0 ∧ r4 = 0 ∧ r5 = 0 ∧ r6 = [] ∧ r7 = []) ∨
       (CheckV c0 c1 c2 c3 c4 = 0 ∧ ¬ Rng n0 n1 n2 n3 ∧ r8 = 3 ∧ r1 = 0 ∧ r2 = 0 ∧ r3 = 0 ∧ r4 = 0 ∧ r5 = 0 ∧ r6 = [] ∧ r7 = []) ∨
       (r8 = 0 ∧ c0 = r1 ∧ c1 = r2 ∧ c2 = r3 ∧ c3 = r4 ∧ c4 = r5 ∧ ∃ bE, Got b c0 c1 c2 c3 c4 n0 n1 n2 n3 r6 r7 bE)) := by
  by_cases hc : CheckV c0 c1 c2 c3 c4 = 0
  · by_cases hr : Rng n0 n1 n2 n3
    · obtain ⟨⟨h1, h2⟩, ⟨h3, h4⟩, ⟨h5, h6⟩, h7, h8⟩ := hr
      obtain ⟨t, rfl⟩ : ∃ t : Nat, n0 = t := ⟨n0.toNat, by omega⟩
      obtain ⟨o, rfl⟩ : ∃ o : Nat, n1 = o := ⟨n1.toNat, by omega⟩
      have e := script_f b c0 c1 c2 c3 c4 n2 n3 t o hc h5 h6 (by omega) (by omega) (by omega) h7 (by omega)
      have hsc := drawn_ok b (rowsS c0 c3 n2 o t b).2 c0 c1 c2 c3 c4 n2 t o n3.toNat n3 hc h5 h6 ⟨by omega, by omega⟩ (by omega) ⟨h7, by omega⟩ (by omega)
      have hlen := rowsS_len c0 c3 n2 o t b
      have hp := rpicks_f (rowsS c0 c3 n2 o t b).2 t n3 (by omega) (by omega) h7 (by omega)
      have hpl := pk_len t n3 8 (by decide) (by decide) n3.toNat [] (rowsS c0 c3 n2 o t b).2 (by simp; omega) (by simp; omega)
      exact ⟨_, _, _, _, _, _, _, _, _, e, .inr (.inr ⟨rfl, rfl, rfl, rfl, rfl, rfl, (rowsS c0 c3 n2 o t b).2, ⟨hc, ⟨⟨h1, h2⟩, ⟨h3, h4⟩, ⟨h5, h6⟩, h7, h8⟩, by omega, rfl, ⟨_, hp⟩, hsc, hlen, hpl⟩⟩)⟩
    · exact ⟨_, _, _, _, _, _, _, _, _, script_out b c0 c1 c2 c3 c4 n0 n1 n2 n3 hc hr, .inr (.inl ⟨hc, hr, rfl, rfl, rfl, rfl, rfl, rfl, rfl, rfl⟩)⟩
  · exact ⟨_, _, _, _, _, _, _, _, _, script_no b c0 c1 c2 c3 c4 n2 n3 n0 n1 hc, .inl ⟨hc, rfl, rfl, rfl, rfl, rfl, rfl, rfl, rfl⟩⟩
theorem rowsS_succ (a h keys : Int) (o n : Nat) (b : BitVec 64) : rowsS a h keys o (n + 1) b = ((rowS a h keys o b).1 :: (rowsS a h keys o n (rowS a h keys o b).2).1, (rowsS a h keys o n (rowS a h keys o b).2).2) := rfl
end Go.Proofs.Ytcphmelmieedfaa.PMintScripts

