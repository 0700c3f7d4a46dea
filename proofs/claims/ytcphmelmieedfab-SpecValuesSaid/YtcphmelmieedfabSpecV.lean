/-
States as a map's keys; a list taken out of in any order.
-/
import Derived.Test.YtcphmelmieedfabSpecL
namespace Go.Proofs.Ytcphmelmieedfab.PSpecExact
open Go Go.RowKit Go.Proofs.YtcphmelmieedfabW.PrintWords Go.Proofs.YtcphmelmieedfabW.PrintLast Go.Proofs.YtcphmelmieedfabW.PrintMore
set_option linter.unusedVariables false
set_option linter.unusedSimpArgs false
abbrev K29 := {l : List S26 // l.length ≤ 16}
def e29 (k : K29) : Value := .agg (SV k.1)
theorem ck_int (em : Bool) (d : Nat) (t : TypeId) (kd : IntKind) (ht : Try.prog.underlying t = some (.int kd)) (x : Int) (w : World) : (Instr.checkKey em (d + 1) t (.int kd x)).run Try.prog w = .ok () w := by
  rw [Instr.checkKey]
  simp [run_underlying ht]
theorem ck26 (em : Bool) (d : Nat) (a b : Int) (w : World) : (Instr.checkKey em (d + 2) 26 (.agg #[.int .u64 a, .int .u64 b])).run Try.prog w = .ok () w := by
  have p1 : ∀ (w : World), (part 23 #[.int .u64 a, .int .u64 b] 0).run Try.prog w = .ok (.int .u64 a) w := fun w => by simp [part, isAgg, run_underlying Try.underlying23]
  have p2 : ∀ (w : World), (part 23 #[.int .u64 a, .int .u64 b] 1).run Try.prog w = .ok (.int .u64 b) w := fun w => by simp [part, isAgg, run_underlying Try.underlying23]
  have q := fun x => ck_int em d 23 .u64 Try.underlying23 x
  rw [show d + 2 = (d + 1) + 1 from rfl, Instr.checkKey]
  simp only [Sem.run_bind, run_underlying Try.underlying26, Result.andThen_ok]
  rw [← Array.forIn_toList]
  simp [p1, p2, q]
theorem ck27 (em : Bool) (d : Nat) (l : List S26) (w : World) : (Instr.checkKey em (d + 3) 27 (.agg (PV l))).run Try.prog w = .ok () w := by
  rw [show d + 3 = (d + 2) + 1 from rfl, Instr.checkKey]
  have hu27 : Try.prog.underlying 27 = some (.array 16 26) := by kernel_rfl
  simp only [Sem.run_bind, run_underlying hu27, Result.andThen_ok]
  simp only [Std.Legacy.Range.forIn_eq_forIn_range', Std.Legacy.Range.size, Nat.sub_zero, Nat.add_one_sub_one, Nat.div_one]
  have each : ∀ i ∈ List.range' 0 16, i < 16 := fun i hi => by have := List.mem_range'.1 hi; omega
  generalize List.range' 0 16 = is at each
  have hs : ∀ w : World, (sizeOf 26).run Try.prog w = .ok 2 w := fun w => by kernel_rfl
  induction is with
  | nil => simp
  | cons j is ih =>
    have hj := each j (by simp)
    have pa : (part 26 (PV l) (j * 2)).run Try.prog w = .ok (.agg #[.int .u64 (kOf l j), .int .u64 (vOf l j)]) w := by
      simp [part, isAgg, run_underlying Try.underlying26, hs, ext2 (PV_k l hj) (PV_v l hj)]
    simp only [List.forIn_cons, Sem.run_bind, hs, Result.andThen_ok, pa, ck26, Sem.run_pure]
    exact ih (fun y hy => each y (by simp [hy]))
theorem ck29 (em : Bool) (d : Nat) (l : List S26) (w : World) : (Instr.checkKey em (d + 4) 29 (.agg (SV l))).run Try.prog w = .ok () w := by
  have p1 : ∀ (w : World), (part 3 (SV l) 0).run Try.prog w = .ok (.int .i64 l.length) w := fun w => by simp [part, isAgg, run_underlying Try.underlying3, SV_0]
  have hs : ∀ w : World, (sizeOf 27).run Try.prog w = .ok 32 w := fun w => by kernel_rfl
  have p2 : ∀ (w : World), (part 27 (SV l) 1).run Try.prog w = .ok (.agg (PV l)) w := fun w => by simp [part, isAgg, run_underlying Try.underlying27, hs, PV]
  rw [show d + 4 = (d + 3) + 1 from rfl, Instr.checkKey]
  simp only [Sem.run_bind, run_underlying Try.underlying29, Result.andThen_ok]
  rw [← Array.forIn_toList]
  have q1 := fun x w => ck_int em (d + 2) 3 .i64 Try.underlying3 x w
  have q2 := fun w => ck27 em d l w
  simp [p1, p2, q1, q2]
theorem svL_int : ∀ (l : List S26) (m : Nat), ∀ v ∈ svL l m, ∃ x, v = .int .u64 x
  | l, 0, v, h => by cases l <;> simp [svL] at h
  | [], m + 1, v, h => by
    simp only [svL, List.mem_cons] at h
    rcases h with h | h | h
    · exact ⟨_, h⟩
    · exact ⟨_, h⟩
    · exact svL_int [] m v h
  | x :: r, m + 1, v, h => by
    simp only [svL, List.mem_cons] at h
    rcases h with h | h | h
    · exact ⟨_, h⟩
    · exact ⟨_, h⟩
    · exact svL_int r m v h
theorem same29 (l : List S26) : Instr.sameBits 10000 (.agg (SV l)) (.agg (SV l)) = true := by
  show Instr.sameBits (9999 + 1) (.agg (SV l)) (.agg (SV l)) = true
  simp only [Instr.sameBits, beq_self_eq_true, Bool.true_and, List.all_eq_true]
  intro p hp
  obtain ⟨i, hi, e⟩ := List.getElem_of_mem hp
  have hm : p.1 = p.2 ∧ p.1 ∈ (SV l).toList := by
    simp only [List.getElem_zip] at e
    rw [← e]
    exact ⟨rfl, List.getElem_mem _⟩
  obtain ⟨h1, h2⟩ := hm
  rw [← h1]
  have h3 : ∃ k x, p.1 = .int k x := by
    unfold SV at h2
    simp only [List.toList_toArray, List.mem_cons] at h2
    rcases h2 with h2 | h2
    · exact ⟨_, _, h2⟩
    · obtain ⟨x, e⟩ := svL_int l 16 _ h2
      exact ⟨_, _, e⟩
  obtain ⟨k, x, e3⟩ := h3
  rw [e3]
  simp [Instr.sameBits]
theorem keyOf29 : M.KeyOf Try.prog 29 e29 := by
  refine M.keyOf_struct Try.underlying29 (fun b w k => ?_) (fun w k k' => ?_) (fun k => ⟨_, rfl⟩) (fun k => ?_) (fun k k' e => ?_)
  · exact ck29 b 9996 k.1 w
  · have h := eqState (10000 - 4) (r := k'.1) k.2 w
    have h2 : decide (k.1 = k'.1) = decide (k = k') := decide_eq_decide.2 ⟨Subtype.ext, fun e => congrArg _ e⟩
    rw [h2] at h
    unfold e29
    simpa [Op.equal, Op.maxDepth] using h
  · exact same29 k.1
  · unfold e29 at e
    injection e with e
    exact Subtype.ext (SV_inj k.2 e)
end Go.Proofs.Ytcphmelmieedfab.PSpecExact

namespace Go.Proofs.Ytcphmelmieedfab.PSpecExact
open Go Go.RowKit Go.Proofs.YtcphmelmieedfabW.PrintWords
set_option linter.unusedVariables false
set_option linter.unusedSimpArgs false
theorem st_app : ∀ (l : List S26) (u : List S57), (l.foldl st (u, false)).2 = false → (l.foldl st (u, false)).1 = u ++ l.map c57
  | [], u, _ => by simp
  | p :: r, u, h => by
    simp only [List.foldl_cons] at h ⊢
    by_cases hk : (getU u p.f0).2 = true
    · have e1 : st (u, false) p = (flt u p.f0 ++ [c57 p], true) := by unfold st; rw [hk]; rfl
      rw [e1, st_true] at h; cases h
    · have hk := Bool.eq_false_iff.2 hk
      have e1 : st (u, false) p = (u ++ [c57 p], false) := by unfold st; rw [hk, getU_flt hk]; rfl
      rw [e1] at h ⊢
      rw [st_app r _ h]
      simp
/-- What came out of a list into a state, and what is left. -/
structure Inv (l t rest : List S26) : Prop where
  srt : Srt t
  mem : ∀ p, p ∈ l ↔ p ∈ t ∨ p ∈ rest
  uk : rest.Pairwise (fun a b => a.f0 ≠ b.f0)
  ap : ∀ p ∈ t, ∀ q ∈ rest, p.f0 ≠ q.f0
  len : t.length + rest.length ≤ l.length
theorem Inv.start {s l : List S26} (h : Rel s (l.map c57)) : Inv l [] l where
  srt := trivial
  mem p := by simp
  uk := by have := unl_pair.1 h.unl; rw [List.pairwise_map] at this; exact this
  ap p hp := by simp at hp
  len := by simp
theorem isF_mem {t : List S26} (h : Srt t) {k : Int} (hn : ∀ p ∈ t, p.f0 ≠ k) : isF k t = false := by
  rw [isF_lk h]
  cases hq : lk t k with
  | none => rfl
  | some v =>
    obtain ⟨y, hy, e⟩ := lk_mem hq
    exact absurd e (hn y hy)
theorem Inv.step {l t rest : List S26} (h : Inv l t rest) (hl : l.length ≤ 16) (i : Nat) (hi : i < rest.length) :
    (withV t (rest.getD i ⟨0, 0⟩)).2 = 0 ∧ Inv l (withV t (rest.getD i ⟨0, 0⟩)).1 (rest.take i ++ rest.drop (i + 1)) := by
  have hlen := h.len
  have hp : rest = rest.take i ++ rest.getD i ⟨0, 0⟩ :: rest.drop (i + 1) := by
    rw [List.getD_eq_getElem?_getD, List.getElem?_eq_getElem hi]
    simp
  generalize rest.getD i ⟨0, 0⟩ = p at *
  have w := withV_lk h.srt (by omega) p
  have hpm : p ∈ rest := by rw [hp]; simp
  have hF : isF p.f0 t = false := isF_mem h.srt (fun q hq => h.ap q hq p hpm)
  have hlk : lk t p.f0 = none := by
    have := isF_lk h.srt p.f0
    rw [hF] at this
    cases hq : lk t p.f0 with
    | none => rfl
    | some v => rw [hq] at this; cases this
  have hmem : ∀ q, q ∈ (withV t p).1 ↔ q ∈ t ∨ q = p := fun q => by
    obtain ⟨k, v⟩ := q
    rw [← lk_iff w.2.1 k v, w.2.2.2 k, ← lk_iff h.srt k v]
    obtain ⟨pk, pv⟩ := p
    by_cases e : k = pk
    · subst e
      rw [if_pos rfl, show lk t k = none from hlk]
      simp
      exact eq_comm
    · rw [if_neg e]; simp [e]
  have hu := h.uk
  rw [hp, List.pairwise_append] at hu
  obtain ⟨u1, u2, u3⟩ := hu
  rw [List.pairwise_cons] at u2
  refine ⟨w.1, w.2.1, fun q => ?_, ?_, ?_, ?_⟩
  · rw [h.mem q, hmem q]
    conv => lhs; rw [hp]
    simp only [List.mem_append, List.mem_cons]
    constructor
    · rintro (a | a | a | a)
      · exact .inl (.inl a)
      · exact .inr (.inl a)
      · exact .inl (.inr a)
      · exact .inr (.inr a)
    · rintro ((a | a) | a | a)
      · exact .inl a
      · exact .inr (.inr (.inl a))
      · exact .inr (.inl a)
      · exact .inr (.inr (.inr a))
  · rw [List.pairwise_append]
    exact ⟨u1, u2.2, fun a ha b hb => u3 a ha b (by simp [hb])⟩
  · intro q hq r hr
    have hr2 : r ∈ rest := by
      rw [hp]
      rcases List.mem_append.1 hr with a | a
      · simp [a]
      · simp [a]
    rcases (hmem q).1 hq with a | rfl
    · exact h.ap q a r hr2
    · rcases List.mem_append.1 hr with a | a
      · exact (u3 r a q (by simp)).symm
      · exact u2.1 r a
  · have h1 : (rest.take i ++ rest.drop (i + 1)).length + 1 = rest.length := by simp; omega
    have := w.2.2.1
    omega
theorem Inv.done {l t s : List S26} (h : Inv l t []) (hr : Rel s (l.map c57)) : t = s := by
  refine srt_ext h.srt hr.srt (fun p => ?_)
  have h1 := h.mem p
  have h2 := hr.mem p
  simp only [List.not_mem_nil, or_false] at h1
  rw [← h1, h2, List.mem_map]
  constructor
  · intro hm; exact ⟨p, hm, rfl⟩
  · rintro ⟨q, hq, e⟩
    have : unc (c57 q) = unc (c57 p) := by rw [e]
    rw [unc_c, unc_c] at this
    exact this ▸ hq
theorem withV_lk16 {s : List S26} (h : Srt s) (hs : s.length ≤ 16) (p : S26) (h0 : (withV s p).2 = 0) : Srt (withV s p).1 ∧ ∀ k, lk (withV s p).1 k = if k = p.f0 then some p.f1 else lk s k := by
  by_cases hf : isF p.f0 s = true
  · have e : withV s p = (s.set (posF p.f0 s) p, 0) := by unfold withV; rw [if_pos hf]
    rw [e]
    exact set_lk p h hf
  · by_cases h16 : s.length = 16
    · have e : withV s p = ([], 6) := by unfold withV; rw [if_neg hf, if_pos h16]
      rw [e] at h0; cases h0
    · have w := withV_lk h (by omega) p
      exact ⟨w.2.1, w.2.2.2⟩
theorem withoutV_lt {u : List S26} {k : Int} (h : isF k u = true) : (withoutV u k).length + 1 = u.length := by
  unfold withoutV
  rw [if_pos h]
  have h1 := isF_lt h
  have := del_len u (posF k u) h1
  omega
/-- A pair put, and put back as it was. -/
theorem back_l {s : List S26} (h : Srt s) (hs : s.length ≤ 16) (p : S26) (h0 : (withV s p).2 = 0) :
    (isF p.f0 s = false → withoutV (withV s p).1 p.f0 = s ∧ (withV s p).1 ≠ s) ∧
    (isF p.f0 s = true → withV (withoutV (withV s p).1 p.f0) ⟨p.f0, getV s p.f0⟩ = (s, 0) ∧ ((withV s p).1 = s ↔ getV s p.f0 = p.f1)) := by
  have hw := withV_lk16 h hs p h0
  have hle := withV_le s p hs
  generalize (withV s p).1 = u at *
  obtain ⟨hu, hlu⟩ := hw
  have ho := withoutV_lk hu p.f0
  have hF := isF_lk h p.f0
  have hG := getV_lk h p.f0
  have hup : lk u p.f0 = some p.f1 := by rw [hlu, if_pos rfl]
  constructor
  · intro hf
    rw [hf] at hF
    have hn : lk s p.f0 = none := by
      cases hq : lk s p.f0 with
      | none => rfl
      | some v => rw [hq] at hF; cases hF
    refine ⟨lk_ext ho.1 h (fun k => ?_), fun e => ?_⟩
    · rw [ho.2.2 k, hlu k]
      by_cases e : k = p.f0
      · rw [if_pos e, e, hn]
      · rw [if_neg e, if_neg e]
    · rw [e, hn] at hup; cases hup
  · intro hf
    rw [hf] at hF
    obtain ⟨v, hv⟩ : ∃ v, lk s p.f0 = some v := by
      cases hq : lk s p.f0 with
      | none => rw [hq] at hF; cases hF
      | some v => exact ⟨v, rfl⟩
    rw [hv] at hG
    have hG : getV s p.f0 = v := hG
    rw [hG]
    have hfu : isF p.f0 u = true := by rw [isF_lk hu, hup]; rfl
    have hlt := withoutV_lt hfu
    have hw2 := withV_lk ho.1 (by omega) ⟨p.f0, v⟩
    refine ⟨Prod.ext (lk_ext hw2.2.1 h (fun k => ?_)) hw2.1, fun e => ?_, fun e => lk_ext hu h (fun k => ?_)⟩
    · rw [hw2.2.2.2 k, ho.2.2 k, hlu k]
      by_cases e : k = p.f0
      · rw [if_pos e, e, hv]
      · have e2 : ¬ k = (⟨p.f0, v⟩ : S26).f0 := e
        rw [if_neg e2, if_neg e, if_neg e]
    · rw [e, hv] at hup
      injection hup
    · rw [hlu k]
      by_cases e2 : k = p.f0
      · rw [if_pos e2, e2, hv, e]
      · rw [if_neg e2]
end Go.Proofs.Ytcphmelmieedfab.PSpecExact

