/-
The reference's cells and births: what its functions compute.
-/
import Derived.Test.YtlpnggapndokeaaCells
import Derived.Test.YtlpnggapndokeaaShort
namespace Go.Proofs.Ytlpnggapndokeaa.PIdealKeeps
open Go Go.RowKit Go.Proofs.YtlpnggapndokeaaW.PrintWords Go.Proofs.YtlpnggapndokeaaW.PrintLast Go.Proofs.YtlpnggapndokeaaW.PrintMore Go.Proofs.Ytlpnggapndokeaa.M
attribute [local go_sem] max2_int min2_int max_two min_two max_three min_three max_four min_four
set_option linter.unusedVariables false
set_option linter.unusedSimpArgs false
/-- A place and its word. -/
structure S143 where
  f0 : Int
  f1 : Int
  f2 : Int
  f3 : Int
def z143 : S143 := ⟨0, 0, 0, 0⟩
def k143 : Kd S143 := Kd.iso (Kd.pair (Kd.int .i64) (Kd.pair (Kd.int .i64) (Kd.pair (Kd.int .i64) (Kd.int .u64)))) (fun x : S143 => (x.f0, x.f1, x.f2, x.f3))
theorem k143_open {w : World} {x : S143} {cs : List Value} (h : k143.K w x cs) : cs = [.int .i64 x.f0, .int .i64 x.f1, .int .i64 x.f2, .int .u64 x.f3] := by
  obtain ⟨_, _, rfl, rfl, ⟨_, _, rfl, rfl, ⟨_, _, rfl, rfl, rfl⟩⟩⟩ := h
  rfl
theorem k143_openM {w : World} {base : Nat} {ok : Nat → Prop} {x : S143} {cs : List Value} (h : k143.M w base ok x cs) : cs = [.int .i64 x.f0, .int .i64 x.f1, .int .i64 x.f2, .int .u64 x.f3] := by
  obtain ⟨_, _, rfl, rfl, ⟨_, _, rfl, rfl, ⟨_, _, rfl, rfl, rfl⟩⟩⟩ := h
  exact rfl
theorem k143_mkM (w : World) (base : Nat) (ok : Nat → Prop) (x : S143) : k143.M w base ok x [.int .i64 x.f0, .int .i64 x.f1, .int .i64 x.f2, .int .u64 x.f3] := ⟨[.int .i64 x.f0], [.int .i64 x.f1, .int .i64 x.f2, .int .u64 x.f3], rfl, rfl, ⟨[.int .i64 x.f1], [.int .i64 x.f2, .int .u64 x.f3], rfl, rfl, ⟨[.int .i64 x.f2], [.int .u64 x.f3], rfl, rfl, rfl⟩⟩⟩
theorem info143 : (Try.prog.info? 143).map (fun i => (i.zero, i.size, i.bytes)) = some (some (.agg #[.int .i64 0, .int .i64 0, .int .i64 0, .int .u64 0]), 4, 32) := by kernel_rfl
def oget : List S143 → K3 → Int
  | [], _ => 0
  | x :: r, p => if (x.f0, x.f1, x.f2) = p then x.f3 else oget r p
def oset : List S143 → K3 → Int → List S143
  | [], p, w => [⟨p.1, p.2.1, p.2.2, w⟩]
  | x :: r, p, w => if (x.f0, x.f1, x.f2) = p then ⟨x.f0, x.f1, x.f2, w⟩ :: r else x :: oset r p w
theorem oget_oset (l : List S143) (p q : K3) (w : Int) : oget (oset l p w) q = if q = p then w else oget l q := by
  induction l with
  | nil =>
    simp only [oset, oget]
    by_cases h : q = p
    · rw [if_pos h, if_pos h.symm]
    · rw [if_neg h, if_neg (fun e => h e.symm)]
  | cons x r ih =>
    simp only [oset]
    by_cases h : (x.f0, x.f1, x.f2) = p
    · rw [if_pos h]
      simp only [oget]
      by_cases h2 : q = p
      · rw [if_pos h2, if_pos (h.trans h2.symm)]
      · rw [if_neg h2, if_neg (fun e => h2 (e.symm.trans h)), if_neg (fun e => h2 (e.symm.trans h))]
    · rw [if_neg h]
      simp only [oget]
      by_cases h2 : (x.f0, x.f1, x.f2) = q
      · rw [if_pos h2, if_pos h2, if_neg (fun e => h (h2.trans e))]
      · rw [if_neg h2, if_neg h2, ih]
/-- Where a place stands first, from i on. -/
theorem oset_at {l : List S143} {p : K3} {w : Int} : ∀ (i : Nat), i < l.length → (∀ j, j < i → ((l.getD j z143).f0, (l.getD j z143).f1, (l.getD j z143).f2) ≠ p) → ((l.getD i z143).f0, (l.getD i z143).f1, (l.getD i z143).f2) = p →
    oset l p w = l.set i ⟨(l.getD i z143).f0, (l.getD i z143).f1, (l.getD i z143).f2, w⟩ := by
  induction l with
  | nil => intro i h; simp at h
  | cons x r ih =>
    intro i hi hno hat
    cases i with
    | zero =>
      have h : (x.f0, x.f1, x.f2) = p := hat
      simp only [oset, if_pos h, List.set_cons_zero]
      rfl
    | succ i =>
      have h : ¬ (x.f0, x.f1, x.f2) = p := hno 0 (by omega)
      simp only [oset, if_neg h, List.set_cons_succ]
      rw [ih i (by simpa using hi) (fun j hj => hno (j + 1) (by omega)) hat]
      rfl
theorem oset_none {l : List S143} {p : K3} {w : Int} (h : ∀ j, j < l.length → ((l.getD j z143).f0, (l.getD j z143).f1, (l.getD j z143).f2) ≠ p) : oset l p w = l ++ [⟨p.1, p.2.1, p.2.2, w⟩] := by
  induction l with
  | nil => rfl
  | cons x r ih =>
    have h0 : ¬ (x.f0, x.f1, x.f2) = p := h 0 (by simp)
    simp only [oset, if_neg h0, List.cons_append]
    rw [ih (fun j hj => h (j + 1) (by simpa using hj))]
theorem oget_at {l : List S143} {p : K3} : ∀ (i : Nat), i < l.length → (∀ j, j < i → ((l.getD j z143).f0, (l.getD j z143).f1, (l.getD j z143).f2) ≠ p) → ((l.getD i z143).f0, (l.getD i z143).f1, (l.getD i z143).f2) = p → oget l p = (l.getD i z143).f3 := by
  induction l with
  | nil => intro i h; simp at h
  | cons x r ih =>
    intro i hi hno hat
    cases i with
    | zero =>
      have h : (x.f0, x.f1, x.f2) = p := hat
      simp only [oget, if_pos h]
      rfl
    | succ i =>
      have h : ¬ (x.f0, x.f1, x.f2) = p := hno 0 (by omega)
      simp only [oget, if_neg h]
      exact ih i (by simpa using hi) (fun j hj => hno (j + 1) (by omega)) hat
theorem oget_none {l : List S143} {p : K3} (h : ∀ j, j < l.length → ((l.getD j z143).f0, (l.getD j z143).f1, (l.getD j z143).f2) ≠ p) : oget l p = 0 := by
  induction l with
  | nil => rfl
  | cons x r ih =>
    have h0 : ¬ (x.f0, x.f1, x.f2) = p := h 0 (by simp)
    simp only [oget, if_neg h0]
    exact ih (fun j hj => h (j + 1) (by simpa using hj))
theorem eq23b (d : Nat) (w : World) (a b c a' b' c' : Int) (r : Bool) (h : decide ((a, b, c) = (a', b', c')) = r) : (Op.equalIn (d + 2) 23 (.agg #[.int .i64 a, .int .i64 b, .int .i64 c]) (.agg #[.int .i64 a', .int .i64 b', .int .i64 c'])).run Try.prog w = .ok r w := by
  rw [eq23, ← h]
  congr 1
  simp only [Prod.mk.injEq]
  by_cases h1 : a = a' <;> by_cases h2 : b = b' <;> by_cases h3 : c = c' <;> simp [h1, h2, h3]
/-- Not found so far. -/
def Past (l : List S143) (p : K3) (i : Int) : Prop := ∀ j : Nat, (j : Int) < i → ((l.getD j z143).f0, (l.getD j z143).f1, (l.getD j z143).f2) ≠ p
theorem past0 (l : List S143) (p : K3) : Past l p 0 := fun j h => by omega
theorem Past.step {l : List S143} {p : K3} {i : Int} (h : Past l p i) (h0 : 0 ≤ i) (hn : ((l.getD i.toNat z143).f0, (l.getD i.toNat z143).f1, (l.getD i.toNat z143).f2) ≠ p) : Past l p (i + 1) := by
  intro j hj
  by_cases e : (j : Int) < i
  · exact h j e
  · have : j = i.toNat := by omega
    rw [this]
    exact hn
set_option maxHeartbeats 4000000 in
set_option maxRecDepth 100000 in
theorem oget_T (g off : Nat) (A : Option Addr) (c : Nat) (l : List S143) (pk ps pp : Int) (w : World) (hc : w.cell? ⟨g, off, none⟩ = some (.slice A l.length c)) (hC : Kd.C k143 w A l.length l) (hl : l.length ≤ 100000) :
    Calls Try.prog 83 #[.pointer (some ⟨g, off, none⟩), .agg #[.int .i64 pk, .int .i64 ps, .int .i64 pp]] w fun e w' => e = .returned (.int .u64 (oget l (pk, ps, pp))) ∧ Below w.heap.size w w' := by
  have hu23 := Try.underlying23
  have hu53 := Try.underlying53
  have hu55 := Try.underlying55
  have hu143 := Try.underlying143
  have HC := Aside0.mk hC
  have HCC := Aside0.mk hc
  have HL := Aside0.mk hl
  have X0 := Aside0.mk (blk_new w (.cells #[.int .i64 pk, .int .i64 ps, .int .i64 pp] 23))
  have B0 := Aside0.mk (below_alloc (Below.refl w.heap.size w) (.cells #[.int .i64 pk, .int .i64 ps, .int .i64 pp] 23))
  have hg : g < w.heap.size := World.block_lt_of_cell? w _ hc
  have HG := Aside0.mk hg
  clear hC hc hl hg
  go_enter Try.func83, Try.ntmps83
  go_wp2_with fail
  generalize w.alloc (.cells #[.int .i64 pk, .int .i64 ps, .int .i64 pp] 23) = w1 at *
  go_loopg [5] l.length (fun kq v5 w' => ∃ (i : Int), v5 = .int .i64 i ∧ Aside0 (0 ≤ i ∧ i + kq = l.length) ∧ Aside0 (Below w1.heap.size w1 w') ∧ Aside0 (Past l (pk, ps, pp) i))
  case atStart => exact ⟨0, rfl, ⟨by omega⟩, ⟨Below.refl _ _⟩, ⟨past0 _ _⟩⟩
  case round =>
    obtain ⟨i, rfl, HK, HB, HP⟩ := hrel
    have hB := below_step B0.out HB.out
    have c0 : wr.cell? ⟨g, off, none⟩ = some (.slice A l.length c) := (hB.cell (p := ⟨g, off, none⟩) HG.out).trans HCC.out
    by_cases hi : i < (l.length : Int)
    · have t1 : decide (i < (l.length : Int)) = true := decide_eq_true hi
      have p0 : (0 : Int) ≤ i := HK.out.1
      have q0 : i < (l.length : Int) := hi
      have q1 := Aside0.mk hi
      clear hi
      obtain ⟨ko, rfl⟩ : ∃ m, gk = m + 1 := ⟨gk - 1, by have := HK.out; omega⟩
      obtain ⟨ad, cs, e0, _, hKx, hc0⟩ := Kd.C_get HC.out z143 i p0 q0
      cases e0
      have hcs := k143_open hKx
      subst hcs
      have hx0 : w.cell? (ad.add (i.toNat * 4)) = some (.int .i64 (l.getD i.toNat z143).f0) := hc0 0 _ rfl
      have hx1 : w.cell? ⟨(ad.add (i.toNat * 4)).block, (ad.add (i.toNat * 4)).off + 1, none⟩ = some (.int .i64 (l.getD i.toNat z143).f1) := by rw [← add_field _ _ 1 (by omega)]; exact hc0 1 _ rfl
      have hx2 : w.cell? ⟨(ad.add (i.toNat * 4)).block, (ad.add (i.toNat * 4)).off + 2, none⟩ = some (.int .i64 (l.getD i.toNat z143).f2) := by rw [← add_field _ _ 2 (by omega)]; exact hc0 2 _ rfl
      have hx3 : w.cell? ⟨(ad.add (i.toNat * 4)).block, (ad.add (i.toNat * 4)).off + 3, none⟩ = some (.int .u64 (l.getD i.toNat z143).f3) := by rw [← add_field _ _ 3 (by omega)]; exact hc0 3 _ rfl
      replace hx0 := (hB.cell (World.block_lt_of_cell? w _ hx0)).trans hx0
      replace hx1 := (hB.cell (World.block_lt_of_cell? w _ hx1)).trans hx1
      replace hx2 := (hB.cell (World.block_lt_of_cell? w _ hx2)).trans hx2
      replace hx3 := (hB.cell (World.block_lt_of_cell? w _ hx3)).trans hx3
      have Y0 := Aside0.mk (blk_below X0.out HB.out)
      have AT := Aside0.mk (fun h => oget_at (l := l) (p := (pk, ps, pp)) i.toNat (by omega) (fun j hj => HP.out j (by omega)) h)
      have PS := Aside0.mk (fun h => HP.out.step p0 (l := l) (p := (pk, ps, pp)) h)
      clear hKx hc0 hB
      obtain ⟨x, hx⟩ : ∃ x, l.getD i.toNat z143 = x := ⟨_, rfl⟩
      rw [hx] at hx0 hx1 hx2 hx3 AT PS
      clear hx
      obtain ⟨f0, f1, f2, f3⟩ := x
      have p0b : decide (0 ≤ i) = true := decide_eq_true p0
      have wi : wrap64 (i + 1) = i + 1 := by have := q1.out; have := HL.out; unfold wrap64; omega
      replace p0 := eq_true p0
      replace q0 := eq_true q0
      by_cases he : (f0, f1, f2) = (pk, ps, pp)
      · have e23 := fun d W => eq23b d W f0 f1 f2 pk ps pp true (decide_eq_true he)
        have E := Aside0.mk (AT.out he)
        clear he
        go_wp2_with fail
        refine start_ (n := 10) (S := fun w' => w'.cell? ⟨g, off, none⟩ = some (.slice (some ad) l.length c) ∧ w'.cell? (ad.add (i.toNat * 4)) = some (.int .i64 f0) ∧ w'.cell? ⟨(ad.add (i.toNat * 4)).block, (ad.add (i.toNat * 4)).off + 1, none⟩ = some (.int .i64 f1) ∧ w'.cell? ⟨(ad.add (i.toNat * 4)).block, (ad.add (i.toNat * 4)).off + 2, none⟩ = some (.int .i64 f2) ∧ w'.cell? ⟨w.heap.size, 0, none⟩ = some (.int .i64 pk) ∧ w'.cell? ⟨w.heap.size, 1, none⟩ = some (.int .i64 ps) ∧ w'.cell? ⟨w.heap.size, 2, none⟩ = some (.int .i64 pp)) (ds := []) (lb 10 0) (by kernel_rfl) rfl rfl ⟨c0, hx0, hx1, hx2, (blk_cell Y0.out 0).trans rfl, (blk_cell Y0.out 1).trans rfl, (blk_cell Y0.out 2).trans rfl⟩ (fun hHeld => ?_)
        refine pS (v := ?_) (a' := ?_) 0 (some 15) (lb 10 1) rfl rfl (by kernel_rfl) (fun _ _ _ h => h) (by rfl) ?_ ?_ ?_; rotate_left; (intro w'; go_simp; with_reducible rfl); rotate_left; (simp only [Act.put, List.setIfInBounds_toArray, List.set_cons_zero, List.set_cons_succ, i64_w, i32_w]; rfl)
        refine pS (v := ?_) (a' := ?_) 1 (some 16) (lb 10 3) rfl rfl (by kernel_rfl) (fun _ _ _ h => h) (by rfl) ?_ ?_ ?_; rotate_left; (intro w'; go_simp; with_reducible rfl); rotate_left; (simp only [Act.put, List.setIfInBounds_toArray, List.set_cons_zero, List.set_cons_succ, i64_w, i32_w]; rfl)
        refine pS (v := ?_) (a' := ?_) 2 (some 17) (lb 10 7) rfl rfl (by kernel_rfl) (fun _ _ _ h => h) (by rfl) ?_ ?_ ?_; rotate_left; (intro w'; go_simp; with_reducible rfl); rotate_left; (simp only [Act.put, List.setIfInBounds_toArray, List.set_cons_zero, List.set_cons_succ, i64_w, i32_w]; rfl)
        refine pS (v := ?_) (a' := ?_) 4 (some 19) (lb 10 23) rfl rfl (by kernel_rfl) (fun _ _ _ h => h) (by rfl) ?_ ?_ ?_; rotate_left; (intro w'; go_simp; with_reducible rfl); rotate_left; (simp only [Act.put, List.setIfInBounds_toArray, List.set_cons_zero, List.set_cons_succ, i64_w, i32_w]; rfl)
        refine tS (v := ?_) (a' := ?_) 3 (some 18) (lb 10 31) rfl rfl (by kernel_rfl) (fun _ _ _ h => h) hHeld (by rfl) ?_ ?_ ?_; rotate_left; (rintro w' ⟨s0, s1, s2, s3, s4, s5, s6⟩; go_simp; with_reducible rfl); rotate_left; (simp only [Act.put, List.setIfInBounds_toArray, List.set_cons_zero, List.set_cons_succ, i64_w, i32_w]; rfl)
        refine pS (v := ?_) (a' := ?_) 5 (some 20) (lb 10 63) rfl rfl (by kernel_rfl) (fun _ _ _ h => h) (by rfl) ?_ ?_ ?_; rotate_left; (intro w'; go_simp; with_reducible rfl); rotate_left; (simp only [Act.put, List.setIfInBounds_toArray, List.set_cons_zero, List.set_cons_succ, i64_w, i32_w]; rfl)
        refine pS (v := ?_) (a' := ?_) 6 (some 21) (lb 10 127) rfl rfl (by kernel_rfl) (fun _ _ _ h => h) (by rfl) ?_ ?_ ?_; rotate_left; (intro w'; go_simp; with_reducible rfl); rotate_left; (simp only [Act.put, List.setIfInBounds_toArray, List.set_cons_zero, List.set_cons_succ, i64_w, i32_w]; rfl)
        refine tS (v := ?_) (a' := ?_) 7 (some 22) (lb 10 255) rfl rfl (by kernel_rfl) (fun _ _ _ h => h) hHeld (by rfl) ?_ ?_ ?_; rotate_left; (rintro w' ⟨s0, s1, s2, s3, s4, s5, s6⟩; go_simp; with_reducible rfl); rotate_left; (simp only [Act.put, List.setIfInBounds_toArray, List.set_cons_zero, List.set_cons_succ, i64_w, i32_w]; rfl)
        refine tS (v := ?_) (a' := ?_) 8 (some 23) (lb 10 511) rfl rfl (by kernel_rfl) (fun _ _ _ h => h) hHeld (by rfl) ?_ ?_ ?_; rotate_left; (rintro w' ⟨s0, s1, s2, s3, s4, s5, s6⟩; go_simp; with_reducible rfl); rotate_left; (simp only [Act.put, List.setIfInBounds_toArray, List.set_cons_zero, List.set_cons_succ, i64_w, i32_w]; rfl)
        refine pS (v := ?_) (a' := ?_) 9 (some 24) (lb 10 1023) rfl rfl (by kernel_rfl) (fun _ _ _ h => h) (by rfl) ?_ ?_ ?_; rotate_left; (intro w'; go_simp; with_reducible rfl); rotate_left; (simp only [Act.put, List.setIfInBounds_toArray, List.set_cons_zero, List.set_cons_succ, i64_w, i32_w]; rfl)
        refine done_ (by kernel_rfl) ?_
        have d0 : wr.drew.cell? ⟨g, off, none⟩ = some (.slice (some ad) l.length c) := c0
        have d3 : wr.drew.cell? ⟨(ad.add (i.toNat * 4)).block, (ad.add (i.toNat * 4)).off + 3, none⟩ = some (.int .u64 f3) := hx3
        go_wp2_with fail
        go_ret
        rw [E.out]
        exact ⟨rfl, below_drew (below_step B0.out HB.out)⟩
      · have e23 := fun d W => eq23b d W f0 f1 f2 pk ps pp false (decide_eq_false he)
        have E := Aside0.mk (PS.out he)
        clear he
        go_wp2_with fail
        refine start_ (n := 10) (S := fun w' => w'.cell? ⟨g, off, none⟩ = some (.slice (some ad) l.length c) ∧ w'.cell? (ad.add (i.toNat * 4)) = some (.int .i64 f0) ∧ w'.cell? ⟨(ad.add (i.toNat * 4)).block, (ad.add (i.toNat * 4)).off + 1, none⟩ = some (.int .i64 f1) ∧ w'.cell? ⟨(ad.add (i.toNat * 4)).block, (ad.add (i.toNat * 4)).off + 2, none⟩ = some (.int .i64 f2) ∧ w'.cell? ⟨w.heap.size, 0, none⟩ = some (.int .i64 pk) ∧ w'.cell? ⟨w.heap.size, 1, none⟩ = some (.int .i64 ps) ∧ w'.cell? ⟨w.heap.size, 2, none⟩ = some (.int .i64 pp)) (ds := []) (lb 10 0) (by kernel_rfl) rfl rfl ⟨c0, hx0, hx1, hx2, (blk_cell Y0.out 0).trans rfl, (blk_cell Y0.out 1).trans rfl, (blk_cell Y0.out 2).trans rfl⟩ (fun hHeld => ?_)
        refine pS (v := ?_) (a' := ?_) 0 (some 15) (lb 10 1) rfl rfl (by kernel_rfl) (fun _ _ _ h => h) (by rfl) ?_ ?_ ?_; rotate_left; (intro w'; go_simp; with_reducible rfl); rotate_left; (simp only [Act.put, List.setIfInBounds_toArray, List.set_cons_zero, List.set_cons_succ, i64_w, i32_w]; rfl)
        refine pS (v := ?_) (a' := ?_) 1 (some 16) (lb 10 3) rfl rfl (by kernel_rfl) (fun _ _ _ h => h) (by rfl) ?_ ?_ ?_; rotate_left; (intro w'; go_simp; with_reducible rfl); rotate_left; (simp only [Act.put, List.setIfInBounds_toArray, List.set_cons_zero, List.set_cons_succ, i64_w, i32_w]; rfl)
        refine pS (v := ?_) (a' := ?_) 2 (some 17) (lb 10 7) rfl rfl (by kernel_rfl) (fun _ _ _ h => h) (by rfl) ?_ ?_ ?_; rotate_left; (intro w'; go_simp; with_reducible rfl); rotate_left; (simp only [Act.put, List.setIfInBounds_toArray, List.set_cons_zero, List.set_cons_succ, i64_w, i32_w]; rfl)
        refine pS (v := ?_) (a' := ?_) 4 (some 19) (lb 10 23) rfl rfl (by kernel_rfl) (fun _ _ _ h => h) (by rfl) ?_ ?_ ?_; rotate_left; (intro w'; go_simp; with_reducible rfl); rotate_left; (simp only [Act.put, List.setIfInBounds_toArray, List.set_cons_zero, List.set_cons_succ, i64_w, i32_w]; rfl)
        refine tS (v := ?_) (a' := ?_) 3 (some 18) (lb 10 31) rfl rfl (by kernel_rfl) (fun _ _ _ h => h) hHeld (by rfl) ?_ ?_ ?_; rotate_left; (rintro w' ⟨s0, s1, s2, s3, s4, s5, s6⟩; go_simp; with_reducible rfl); rotate_left; (simp only [Act.put, List.setIfInBounds_toArray, List.set_cons_zero, List.set_cons_succ, i64_w, i32_w]; rfl)
        refine pS (v := ?_) (a' := ?_) 5 (some 20) (lb 10 63) rfl rfl (by kernel_rfl) (fun _ _ _ h => h) (by rfl) ?_ ?_ ?_; rotate_left; (intro w'; go_simp; with_reducible rfl); rotate_left; (simp only [Act.put, List.setIfInBounds_toArray, List.set_cons_zero, List.set_cons_succ, i64_w, i32_w]; rfl)
        refine pS (v := ?_) (a' := ?_) 6 (some 21) (lb 10 127) rfl rfl (by kernel_rfl) (fun _ _ _ h => h) (by rfl) ?_ ?_ ?_; rotate_left; (intro w'; go_simp; with_reducible rfl); rotate_left; (simp only [Act.put, List.setIfInBounds_toArray, List.set_cons_zero, List.set_cons_succ, i64_w, i32_w]; rfl)
        refine tS (v := ?_) (a' := ?_) 7 (some 22) (lb 10 255) rfl rfl (by kernel_rfl) (fun _ _ _ h => h) hHeld (by rfl) ?_ ?_ ?_; rotate_left; (rintro w' ⟨s0, s1, s2, s3, s4, s5, s6⟩; go_simp; with_reducible rfl); rotate_left; (simp only [Act.put, List.setIfInBounds_toArray, List.set_cons_zero, List.set_cons_succ, i64_w, i32_w]; rfl)
        refine tS (v := ?_) (a' := ?_) 8 (some 23) (lb 10 511) rfl rfl (by kernel_rfl) (fun _ _ _ h => h) hHeld (by rfl) ?_ ?_ ?_; rotate_left; (rintro w' ⟨s0, s1, s2, s3, s4, s5, s6⟩; go_simp; with_reducible rfl); rotate_left; (simp only [Act.put, List.setIfInBounds_toArray, List.set_cons_zero, List.set_cons_succ, i64_w, i32_w]; rfl)
        refine pS (v := ?_) (a' := ?_) 9 (some 24) (lb 10 1023) rfl rfl (by kernel_rfl) (fun _ _ _ h => h) (by rfl) ?_ ?_ ?_; rotate_left; (intro w'; go_simp; with_reducible rfl); rotate_left; (simp only [Act.put, List.setIfInBounds_toArray, List.set_cons_zero, List.set_cons_succ, i64_w, i32_w]; rfl)
        refine done_ (by kernel_rfl) ?_
        go_wp2_with fail
        go_roundg ko
        case rel => exact ⟨i + 1, by first | rfl | rw [wi], ⟨by have := HK.out; omega⟩, ⟨below_drew HB.out⟩, E⟩
        case measure => exact Nat.lt_succ_self _
    · have t1 : decide (i < (l.length : Int)) = false := decide_eq_false hi
      have E := Aside0.mk (oget_none (l := l) (p := (pk, ps, pp)) (fun j hj => HP.out j (by omega)))
      have R := Aside0.mk hB
      clear hi hB
      go_wp2_with fail
      go_ret
      rw [E.out]
      exact ⟨rfl, R.out⟩
end Go.Proofs.Ytlpnggapndokeaa.PIdealKeeps

namespace Go.Proofs.Ytlpnggapndokeaa.PIdealKeeps
open Go Go.RowKit Go.Proofs.YtlpnggapndokeaaW.PrintWords Go.Proofs.YtlpnggapndokeaaW.PrintLast Go.Proofs.YtlpnggapndokeaaW.PrintMore Go.Proofs.Ytlpnggapndokeaa.M
attribute [local go_sem] max2_int min2_int max_two min_two max_three min_three max_four min_four
set_option linter.unusedVariables false
set_option linter.unusedSimpArgs false
/-- What a Set leaves: the row's new value, and where. -/
def OPost (w0 w : World) (base gu : Nat) (cs : Array Value) (tu : TypeId) (off : Nat) (v : Value) (l : List S143) (r : Value) (e : Ending) (w' : World) : Prop :=
  e = .returned r ∧ ∃ v', k143.R 143 w' base (fun _ => True) v' l ∧ w'.heap[gu]? = some (.cells (cs.setIfInBounds off v') tu (0, 0)) ∧ Below base w0 w' ∧ KeepBut w w' gu v.ownBlock ∧ (v'.ownBlock = v.ownBlock ∨ ∃ b, v'.ownBlock = some b ∧ w.heap.size ≤ b)
theorem set_same {cs : Array Value} {off : Nat} {v : Value} (h : cs[off]? = some v) : cs.setIfInBounds off v = cs := by
  apply Array.ext_getElem?
  intro i
  rw [Array.getElem?_setIfInBounds]
  by_cases e : off = i
  · subst e
    have := (Array.getElem?_eq_some_iff.1 h).1
    rw [if_pos rfl, if_pos this, h]
  · rw [if_neg e]
set_option maxHeartbeats 4000000 in
set_option maxRecDepth 100000 in
theorem oset_T (base gu off : Nat) (cs : Array Value) (tu : TypeId) (v : Value) (l : List S143) (pk ps pp x : Int) (w0 w : World) (hblk : w.heap[gu]? = some (.cells cs tu (0, 0))) (hcs : cs[off]? = some v) (htu : tu ≠ 143) (hR : k143.R 143 w base (fun _ => True) v l) (hb : base ≤ gu) (hB : Below base w0 w) (hbs : base ≤ w.heap.size) (hl : l.length ≤ 100000) :
    Calls Try.prog 85 #[.pointer (some ⟨gu, off, none⟩), .agg #[.int .i64 pk, .int .i64 ps, .int .i64 pp], .int .u64 x] w (OPost w0 w base gu cs tu off v (oset l (pk, ps, pp) x) (.tuple #[])) := by
  have hu23 := Try.underlying23
  have hu53 := Try.underlying53
  have hu55 := Try.underlying55
  have hu143 := Try.underlying143
  obtain ⟨A, c, rfl, hcc, hC⟩ := Kd.R_reads hR
  have HC := Aside0.mk hC
  have HR := Aside0.mk hR
  have HCS := Aside0.mk hcs
  have HBLK := Aside0.mk hblk
  have HTU := Aside0.mk htu
  have HBS := Aside0.mk hbs
  have HBG := Aside0.mk hb
  have HB0 := Aside0.mk hB
  have HL := Aside0.mk hl
  have X0 := Aside0.mk (blk_new w (.cells #[.int .i64 pk, .int .i64 ps, .int .i64 pp] 23))
  have B0 := Aside0.mk (below_alloc (Below.refl w.heap.size w) (.cells #[.int .i64 pk, .int .i64 ps, .int .i64 pp] 23))
  clear hC hR hcs hblk hl hcc htu hb hbs hB
  go_enter Try.func85, Try.ntmps85
  go_wp2_with fail
  generalize w.alloc (.cells #[.int .i64 pk, .int .i64 ps, .int .i64 pp] 23) = w1 at *
  go_loopg [6] l.length (fun kq v6 w' => ∃ (i : Int), v6 = .int .i64 i ∧ Aside0 (0 ≤ i ∧ i + kq = l.length) ∧ Aside0 (Below w1.heap.size w1 w') ∧ Aside0 (Past l (pk, ps, pp) i))
  case atStart => exact ⟨0, rfl, ⟨by omega⟩, ⟨Below.refl _ _⟩, ⟨past0 _ _⟩⟩
  case round =>
    obtain ⟨i, rfl, HK, HB, HP⟩ := hrel
    have hB := below_step B0.out HB.out
    have HBB := Aside0.mk hB
    have hBLK := blk_below HBLK.out hB
    have c0 : wr.cell? ⟨gu, off, none⟩ = some (.slice A l.length c) := (blk_cell hBLK off).trans HCS.out
    have JBLK := Aside0.mk hBLK
    clear hBLK
    by_cases hi : i < (l.length : Int)
    · have t1 : decide (i < (l.length : Int)) = true := decide_eq_true hi
      have p0 : (0 : Int) ≤ i := HK.out.1
      have q0 : i < (l.length : Int) := hi
      have q1 := Aside0.mk (show 0 ≤ i ∧ i < (l.length : Int) from ⟨p0, hi⟩)
      clear hi
      obtain ⟨ko, rfl⟩ : ∃ m, gk = m + 1 := ⟨gk - 1, by have := HK.out; omega⟩
      obtain ⟨gB, cap, hv, hgB, hgl, cells0, hcl⟩ := Kd.R_form HR.out (by omega)
      injection hv with hA _ hcap
      obtain ⟨ad, had⟩ : ∃ ad : Addr, ad = ⟨gB, 0, none⟩ := ⟨_, rfl⟩
      rw [← had] at hA
      subst hA
      subst hcap
      obtain ⟨ad', cs', e0, _, hKx, hc0⟩ := Kd.C_get HC.out z143 i p0 q0
      cases e0
      have hcs' := k143_open hKx
      subst hcs'
      have hx0 : w.cell? (ad.add (i.toNat * 4)) = some (.int .i64 (l.getD i.toNat z143).f0) := hc0 0 _ rfl
      have hx1 : w.cell? ⟨(ad.add (i.toNat * 4)).block, (ad.add (i.toNat * 4)).off + 1, none⟩ = some (.int .i64 (l.getD i.toNat z143).f1) := by rw [← add_field _ _ 1 (by omega)]; exact hc0 1 _ rfl
      have hx2 : w.cell? ⟨(ad.add (i.toNat * 4)).block, (ad.add (i.toNat * 4)).off + 2, none⟩ = some (.int .i64 (l.getD i.toNat z143).f2) := by rw [← add_field _ _ 2 (by omega)]; exact hc0 2 _ rfl
      have hx3 : w.cell? ⟨(ad.add (i.toNat * 4)).block, (ad.add (i.toNat * 4)).off + 3, none⟩ = some (.int .u64 (l.getD i.toNat z143).f3) := by rw [← add_field _ _ 3 (by omega)]; exact hc0 3 _ rfl
      replace hx0 := (hB.cell (World.block_lt_of_cell? w _ hx0)).trans hx0
      replace hx1 := (hB.cell (World.block_lt_of_cell? w _ hx1)).trans hx1
      replace hx2 := (hB.cell (World.block_lt_of_cell? w _ hx2)).trans hx2
      replace hx3 := (hB.cell (World.block_lt_of_cell? w _ hx3)).trans hx3
      have HCL := Aside0.mk (blk_below hcl hB)
      have Y0 := Aside0.mk (blk_below X0.out HB.out)
      have AT := Aside0.mk (fun h => oset_at (l := l) (p := (pk, ps, pp)) (w := x) i.toNat (by omega) (fun j hj => HP.out j (by omega)) h)
      have PS := Aside0.mk (fun h => HP.out.step p0 (l := l) (p := (pk, ps, pp)) h)
      have HAD := Aside0.mk had
      have HGB := Aside0.mk hgB
      obtain ⟨ce, _, hMe, hce, _⟩ := Kd.R_elem (g := gB) (n := l.length) (cap := c) (by rw [← had]; exact HR.out) z143 i p0 q0
      have hce' := k143_openM hMe
      subst hce'
      have HCE := Aside0.mk hce
      clear hKx hc0 hB had hgB hgl hcl hce hMe
      obtain ⟨y, hy⟩ : ∃ y, l.getD i.toNat z143 = y := ⟨_, rfl⟩
      rw [hy] at hx0 hx1 hx2 hx3 AT PS HCE
      clear hy
      obtain ⟨f0, f1, f2, f3⟩ := y
      have p0b : decide (0 ≤ i) = true := decide_eq_true p0
      have wi : wrap64 (i + 1) = i + 1 := by have := q1.out; have := HL.out; unfold wrap64; omega
      replace p0 := eq_true p0
      replace q0 := eq_true q0
      by_cases he : (f0, f1, f2) = (pk, ps, pp)
      · have e23 := fun d W => eq23b d W f0 f1 f2 pk ps pp true (decide_eq_true he)
        have E := Aside0.mk (AT.out he)
        clear he
        go_wp2_with fail
        refine start_ (n := 10) (S := fun w' => w'.cell? ⟨gu, off, none⟩ = some (.slice (some ad) l.length c) ∧ w'.cell? (ad.add (i.toNat * 4)) = some (.int .i64 f0) ∧ w'.cell? ⟨(ad.add (i.toNat * 4)).block, (ad.add (i.toNat * 4)).off + 1, none⟩ = some (.int .i64 f1) ∧ w'.cell? ⟨(ad.add (i.toNat * 4)).block, (ad.add (i.toNat * 4)).off + 2, none⟩ = some (.int .i64 f2) ∧ w'.cell? ⟨w.heap.size, 0, none⟩ = some (.int .i64 pk) ∧ w'.cell? ⟨w.heap.size, 1, none⟩ = some (.int .i64 ps) ∧ w'.cell? ⟨w.heap.size, 2, none⟩ = some (.int .i64 pp)) (ds := []) (lb 10 0) (by kernel_rfl) rfl rfl ⟨c0, hx0, hx1, hx2, (blk_cell Y0.out 0).trans rfl, (blk_cell Y0.out 1).trans rfl, (blk_cell Y0.out 2).trans rfl⟩ (fun hHeld => ?_)
        refine pS (v := ?_) (a' := ?_) 0 (some 16) (lb 10 1) rfl rfl (by kernel_rfl) (fun _ _ _ h => h) (by rfl) ?_ ?_ ?_; rotate_left; (intro w'; go_simp; with_reducible rfl); rotate_left; (simp only [Act.put, List.setIfInBounds_toArray, List.set_cons_zero, List.set_cons_succ, i64_w, i32_w]; rfl)
        refine pS (v := ?_) (a' := ?_) 1 (some 17) (lb 10 3) rfl rfl (by kernel_rfl) (fun _ _ _ h => h) (by rfl) ?_ ?_ ?_; rotate_left; (intro w'; go_simp; with_reducible rfl); rotate_left; (simp only [Act.put, List.setIfInBounds_toArray, List.set_cons_zero, List.set_cons_succ, i64_w, i32_w]; rfl)
        refine pS (v := ?_) (a' := ?_) 2 (some 18) (lb 10 7) rfl rfl (by kernel_rfl) (fun _ _ _ h => h) (by rfl) ?_ ?_ ?_; rotate_left; (intro w'; go_simp; with_reducible rfl); rotate_left; (simp only [Act.put, List.setIfInBounds_toArray, List.set_cons_zero, List.set_cons_succ, i64_w, i32_w]; rfl)
        refine pS (v := ?_) (a' := ?_) 4 (some 20) (lb 10 23) rfl rfl (by kernel_rfl) (fun _ _ _ h => h) (by rfl) ?_ ?_ ?_; rotate_left; (intro w'; go_simp; with_reducible rfl); rotate_left; (simp only [Act.put, List.setIfInBounds_toArray, List.set_cons_zero, List.set_cons_succ, i64_w, i32_w]; rfl)
        refine tS (v := ?_) (a' := ?_) 3 (some 19) (lb 10 31) rfl rfl (by kernel_rfl) (fun _ _ _ h => h) hHeld (by rfl) ?_ ?_ ?_; rotate_left; (rintro w' ⟨s0, s1, s2, s3, s4, s5, s6⟩; go_simp; with_reducible rfl); rotate_left; (simp only [Act.put, List.setIfInBounds_toArray, List.set_cons_zero, List.set_cons_succ, i64_w, i32_w]; rfl)
        refine pS (v := ?_) (a' := ?_) 5 (some 21) (lb 10 63) rfl rfl (by kernel_rfl) (fun _ _ _ h => h) (by rfl) ?_ ?_ ?_; rotate_left; (intro w'; go_simp; with_reducible rfl); rotate_left; (simp only [Act.put, List.setIfInBounds_toArray, List.set_cons_zero, List.set_cons_succ, i64_w, i32_w]; rfl)
        refine pS (v := ?_) (a' := ?_) 6 (some 22) (lb 10 127) rfl rfl (by kernel_rfl) (fun _ _ _ h => h) (by rfl) ?_ ?_ ?_; rotate_left; (intro w'; go_simp; with_reducible rfl); rotate_left; (simp only [Act.put, List.setIfInBounds_toArray, List.set_cons_zero, List.set_cons_succ, i64_w, i32_w]; rfl)
        refine tS (v := ?_) (a' := ?_) 7 (some 23) (lb 10 255) rfl rfl (by kernel_rfl) (fun _ _ _ h => h) hHeld (by rfl) ?_ ?_ ?_; rotate_left; (rintro w' ⟨s0, s1, s2, s3, s4, s5, s6⟩; go_simp; with_reducible rfl); rotate_left; (simp only [Act.put, List.setIfInBounds_toArray, List.set_cons_zero, List.set_cons_succ, i64_w, i32_w]; rfl)
        refine tS (v := ?_) (a' := ?_) 8 (some 24) (lb 10 511) rfl rfl (by kernel_rfl) (fun _ _ _ h => h) hHeld (by rfl) ?_ ?_ ?_; rotate_left; (rintro w' ⟨s0, s1, s2, s3, s4, s5, s6⟩; go_simp; with_reducible rfl); rotate_left; (simp only [Act.put, List.setIfInBounds_toArray, List.set_cons_zero, List.set_cons_succ, i64_w, i32_w]; rfl)
        refine pS (v := ?_) (a' := ?_) 9 (some 25) (lb 10 1023) rfl rfl (by kernel_rfl) (fun _ _ _ h => h) (by rfl) ?_ ?_ ?_; rotate_left; (intro w'; go_simp; with_reducible rfl); rotate_left; (simp only [Act.put, List.setIfInBounds_toArray, List.set_cons_zero, List.set_cons_succ, i64_w, i32_w]; rfl)
        refine done_ (by kernel_rfl) ?_
        have d0 : wr.drew.cell? ⟨gu, off, none⟩ = some (.slice (some ad) l.length c) := c0
        have d3 : wr.cell? ⟨(ad.add (i.toNat * 4)).block, (ad.add (i.toNat * 4)).off + 3, none⟩ = some (.int .u64 f3) := hx3
        have y3 : wr.frozen? ⟨(ad.add (i.toNat * 4)).block, (ad.add (i.toNat * 4)).off + 3, none⟩ = false := by rw [HAD.out, add_plain]; exact blk_frozen HCL.out _
        go_wp2_with fail
        refine bodyPost_ret (results_none rfl _ _ _) rfl ?_
        rw [E.out]
        have had := HAD.out
        subst had
        have hRr := Kd.R_below HR.out HBB.out
        have hseg := Kd.R_seg (g := gB) (n := l.length) (cap := c) hRr i q1.out.1 q1.out.2 (c := [.int .i64 f0, .int .i64 f1, .int .i64 f2, .int .u64 f3]) (seg := [.int .u64 x]) (j := 3) (x' := ⟨f0, f1, f2, x⟩) (okp := fun _ => False) rfl (fun j u hu => (HBB.out.cell (p := ⟨gB, i.toNat * k143.sz + j, none⟩) (World.block_lt_of_cell? w _ (HCE.out j u hu))).trans (HCE.out j u hu)) (by exact Nat.le_refl 4) (k143_mkM _ _ _ ⟨f0, f1, f2, x⟩) (fun _ hk => hk.elim)
        simp only [add_plain]
        have hne : gu ≠ gB := blk_ne JBLK.out HCL.out HTU.out
        refine ⟨rfl, _, Kd.R_below hseg.1 (below_drew (Below.refl _ _)), ?_, ?_, ?_, .inl rfl⟩
        · rw [set_same HCS.out]
          exact blk_drew (blk_far (p := ⟨gB, i.toNat * 4 + 3, none⟩) JBLK.out hne (.int .u64 x))
        · exact (HB0.out.trans ((HBB.out.mono HBS.out).setCell (p := ⟨gB, i.toNat * 4 + 3, none⟩) HGB.out (.int .u64 x))).drew
        · refine ⟨by simpa [World.setCell] using HBB.out.size, fun k hk h1 h2 => ?_⟩
          exact (Below.heap_setCell wr ⟨gB, i.toNat * 4 + 3, none⟩ (.int .u64 x) k (fun e => h2 (by rw [show k = gB from e]; rfl))).trans (HBB.out.block k hk)
      · have e23 := fun d W => eq23b d W f0 f1 f2 pk ps pp false (decide_eq_false he)
        have E := Aside0.mk (PS.out he)
        clear he
        go_wp2_with fail
        refine start_ (n := 10) (S := fun w' => w'.cell? ⟨gu, off, none⟩ = some (.slice (some ad) l.length c) ∧ w'.cell? (ad.add (i.toNat * 4)) = some (.int .i64 f0) ∧ w'.cell? ⟨(ad.add (i.toNat * 4)).block, (ad.add (i.toNat * 4)).off + 1, none⟩ = some (.int .i64 f1) ∧ w'.cell? ⟨(ad.add (i.toNat * 4)).block, (ad.add (i.toNat * 4)).off + 2, none⟩ = some (.int .i64 f2) ∧ w'.cell? ⟨w.heap.size, 0, none⟩ = some (.int .i64 pk) ∧ w'.cell? ⟨w.heap.size, 1, none⟩ = some (.int .i64 ps) ∧ w'.cell? ⟨w.heap.size, 2, none⟩ = some (.int .i64 pp)) (ds := []) (lb 10 0) (by kernel_rfl) rfl rfl ⟨c0, hx0, hx1, hx2, (blk_cell Y0.out 0).trans rfl, (blk_cell Y0.out 1).trans rfl, (blk_cell Y0.out 2).trans rfl⟩ (fun hHeld => ?_)
        refine pS (v := ?_) (a' := ?_) 0 (some 16) (lb 10 1) rfl rfl (by kernel_rfl) (fun _ _ _ h => h) (by rfl) ?_ ?_ ?_; rotate_left; (intro w'; go_simp; with_reducible rfl); rotate_left; (simp only [Act.put, List.setIfInBounds_toArray, List.set_cons_zero, List.set_cons_succ, i64_w, i32_w]; rfl)
        refine pS (v := ?_) (a' := ?_) 1 (some 17) (lb 10 3) rfl rfl (by kernel_rfl) (fun _ _ _ h => h) (by rfl) ?_ ?_ ?_; rotate_left; (intro w'; go_simp; with_reducible rfl); rotate_left; (simp only [Act.put, List.setIfInBounds_toArray, List.set_cons_zero, List.set_cons_succ, i64_w, i32_w]; rfl)
        refine pS (v := ?_) (a' := ?_) 2 (some 18) (lb 10 7) rfl rfl (by kernel_rfl) (fun _ _ _ h => h) (by rfl) ?_ ?_ ?_; rotate_left; (intro w'; go_simp; with_reducible rfl); rotate_left; (simp only [Act.put, List.setIfInBounds_toArray, List.set_cons_zero, List.set_cons_succ, i64_w, i32_w]; rfl)
        refine pS (v := ?_) (a' := ?_) 4 (some 20) (lb 10 23) rfl rfl (by kernel_rfl) (fun _ _ _ h => h) (by rfl) ?_ ?_ ?_; rotate_left; (intro w'; go_simp; with_reducible rfl); rotate_left; (simp only [Act.put, List.setIfInBounds_toArray, List.set_cons_zero, List.set_cons_succ, i64_w, i32_w]; rfl)
        refine tS (v := ?_) (a' := ?_) 3 (some 19) (lb 10 31) rfl rfl (by kernel_rfl) (fun _ _ _ h => h) hHeld (by rfl) ?_ ?_ ?_; rotate_left; (rintro w' ⟨s0, s1, s2, s3, s4, s5, s6⟩; go_simp; with_reducible rfl); rotate_left; (simp only [Act.put, List.setIfInBounds_toArray, List.set_cons_zero, List.set_cons_succ, i64_w, i32_w]; rfl)
        refine pS (v := ?_) (a' := ?_) 5 (some 21) (lb 10 63) rfl rfl (by kernel_rfl) (fun _ _ _ h => h) (by rfl) ?_ ?_ ?_; rotate_left; (intro w'; go_simp; with_reducible rfl); rotate_left; (simp only [Act.put, List.setIfInBounds_toArray, List.set_cons_zero, List.set_cons_succ, i64_w, i32_w]; rfl)
        refine pS (v := ?_) (a' := ?_) 6 (some 22) (lb 10 127) rfl rfl (by kernel_rfl) (fun _ _ _ h => h) (by rfl) ?_ ?_ ?_; rotate_left; (intro w'; go_simp; with_reducible rfl); rotate_left; (simp only [Act.put, List.setIfInBounds_toArray, List.set_cons_zero, List.set_cons_succ, i64_w, i32_w]; rfl)
        refine tS (v := ?_) (a' := ?_) 7 (some 23) (lb 10 255) rfl rfl (by kernel_rfl) (fun _ _ _ h => h) hHeld (by rfl) ?_ ?_ ?_; rotate_left; (rintro w' ⟨s0, s1, s2, s3, s4, s5, s6⟩; go_simp; with_reducible rfl); rotate_left; (simp only [Act.put, List.setIfInBounds_toArray, List.set_cons_zero, List.set_cons_succ, i64_w, i32_w]; rfl)
        refine tS (v := ?_) (a' := ?_) 8 (some 24) (lb 10 511) rfl rfl (by kernel_rfl) (fun _ _ _ h => h) hHeld (by rfl) ?_ ?_ ?_; rotate_left; (rintro w' ⟨s0, s1, s2, s3, s4, s5, s6⟩; go_simp; with_reducible rfl); rotate_left; (simp only [Act.put, List.setIfInBounds_toArray, List.set_cons_zero, List.set_cons_succ, i64_w, i32_w]; rfl)
        refine pS (v := ?_) (a' := ?_) 9 (some 25) (lb 10 1023) rfl rfl (by kernel_rfl) (fun _ _ _ h => h) (by rfl) ?_ ?_ ?_; rotate_left; (intro w'; go_simp; with_reducible rfl); rotate_left; (simp only [Act.put, List.setIfInBounds_toArray, List.set_cons_zero, List.set_cons_succ, i64_w, i32_w]; rfl)
        refine done_ (by kernel_rfl) ?_
        go_wp2_with fail
        go_roundg ko
        case rel => exact ⟨i + 1, by first | rfl | rw [wi], ⟨by have := HK.out; omega⟩, ⟨below_drew HB.out⟩, E⟩
        case measure => exact Nat.lt_succ_self _
    · have t1 : decide (i < (l.length : Int)) = false := decide_eq_false hi
      have E := Aside0.mk (oset_none (l := l) (p := (pk, ps, pp)) (w := x) (fun j hj => HP.out j (by omega)))
      have Y0 := Aside0.mk (blk_below X0.out HB.out)
      have KBLK := Aside0.mk (blk_drew JBLK.out)
      have KR := Aside0.mk (Kd.R_below (Kd.R_below HR.out HBB.out) (below_drew (Below.refl _ _)))
      have KB := Aside0.mk (HB0.out.trans (Below.mono (below_drew HBB.out) HBS.out))
      have KS := Aside0.mk (show base ≤ wr.drew.heap.size from Nat.le_trans HBS.out HBB.out.size)
      clear hi hB
      go_wp2_with fail
      refine start_ (n := 13) (S := fun w' => w'.cell? ⟨gu, off, none⟩ = some (.slice A l.length c) ∧ w'.cell? ⟨w.heap.size, 0, none⟩ = some (.int .i64 pk) ∧ w'.cell? ⟨w.heap.size, 1, none⟩ = some (.int .i64 ps) ∧ w'.cell? ⟨w.heap.size, 2, none⟩ = some (.int .i64 pp)) (ds := [9, 12]) (lb 13 0) (by kernel_rfl) rfl rfl ⟨c0, (blk_cell Y0.out 0).trans rfl, (blk_cell Y0.out 1).trans rfl, (blk_cell Y0.out 2).trans rfl⟩ (fun hHeld => ?_)
      refine pS (v := ?_) (a' := ?_) 0 (some 34) (lb 13 1) rfl rfl (by kernel_rfl) (fun _ _ _ h => h) (by rfl) ?_ ?_ ?_; rotate_left; (intro w'; go_simp; with_reducible rfl); rotate_left; (simp only [Act.put, List.setIfInBounds_toArray, List.set_cons_zero, List.set_cons_succ, i64_w, i32_w]; rfl)
      refine pS (v := ?_) (a' := ?_) 1 (some 35) (lb 13 3) rfl rfl (by kernel_rfl) (fun _ _ _ h => h) (by rfl) ?_ ?_ ?_; rotate_left; (intro w'; go_simp; with_reducible rfl); rotate_left; (simp only [Act.put, List.setIfInBounds_toArray, List.set_cons_zero, List.set_cons_succ, i64_w, i32_w]; rfl)
      refine pS (v := ?_) (a' := ?_) 2 (some 36) (lb 13 7) rfl rfl (by kernel_rfl) (fun _ _ _ h => h) (by rfl) ?_ ?_ ?_; rotate_left; (intro w'; go_simp; with_reducible rfl); rotate_left; (simp only [Act.put, List.setIfInBounds_toArray, List.set_cons_zero, List.set_cons_succ, i64_w, i32_w]; rfl)
      refine pS (v := ?_) (a' := ?_) 3 (some 37) (lb 13 15) rfl rfl (by kernel_rfl) (fun _ _ _ h => h) (by rfl) ?_ ?_ ?_; rotate_left; (intro w'; go_simp; with_reducible rfl); rotate_left; (simp only [Act.put, List.setIfInBounds_toArray, List.set_cons_zero, List.set_cons_succ, i64_w, i32_w]; rfl)
      refine pS (v := ?_) (a' := ?_) 6 (some 40) (lb 13 79) rfl rfl (by kernel_rfl) (fun _ _ _ h => h) (by rfl) ?_ ?_ ?_; rotate_left; (intro w'; go_simp; with_reducible rfl); rotate_left; (simp only [Act.put, List.setIfInBounds_toArray, List.set_cons_zero, List.set_cons_succ, i64_w, i32_w]; rfl)
      refine tS (v := ?_) (a' := ?_) 4 (some 38) (lb 13 95) rfl rfl (by kernel_rfl) (fun _ _ _ h => h) hHeld (by rfl) ?_ ?_ ?_; rotate_left; (rintro w' ⟨s0, s1, s2, s3⟩; go_simp; with_reducible rfl); rotate_left; (simp only [Act.put, List.setIfInBounds_toArray, List.set_cons_zero, List.set_cons_succ, i64_w, i32_w]; rfl)
      refine tS (v := ?_) (a' := ?_) 5 (some 39) (lb 13 127) rfl rfl (by kernel_rfl) (fun _ _ _ h => h) hHeld (by rfl) ?_ ?_ ?_; rotate_left; (rintro w' ⟨s0, s1, s2, s3⟩; go_simp; with_reducible rfl); rotate_left; (simp only [Act.put, List.setIfInBounds_toArray, List.set_cons_zero, List.set_cons_succ, i64_w, i32_w]; rfl)
      refine pS (v := ?_) (a' := ?_) 7 (some 41) (lb 13 255) rfl rfl (by kernel_rfl) (fun _ _ _ h => h) (by rfl) ?_ ?_ ?_; rotate_left; (intro w'; go_simp; with_reducible rfl); rotate_left; (simp only [Act.put, List.setIfInBounds_toArray, List.set_cons_zero, List.set_cons_succ, i64_w, i32_w]; rfl)
      refine one_ (i := 8) (N := some 42) (lb 13 511) rfl rfl (by kernel_rfl) (by decide) (fun K hK => ?_)
      refine value_ (w1 := ?_) (v := ?_) (by rfl) rfl ?_ ?_
      rotate_left 2
      · go_simp
        constructor
        · rfl
        · rfl
      refine hK.out _ _ ⟨(blk_cell (blk_alloc KBLK.out _) off).trans HCS.out, (blk_cell (blk_alloc (blk_drew Y0.out) _) 0).trans rfl, (blk_cell (blk_alloc (blk_drew Y0.out) _) 1).trans rfl, (blk_cell (blk_alloc (blk_drew Y0.out) _) 2).trans rfl⟩ (fun hHeld => ?_)
      clear hK K
      refine norm_ (a' := ?_) ?_ ?_
      rotate_left
      · show Act.put _ (some 42) _ = _
        simp only [Act.put, List.setIfInBounds_toArray, List.set_cons_zero, List.set_cons_succ, i64_w, i32_w]
        rfl
      refine last_ (i := 9) (N := some 43) (lb 13 1023) rfl rfl (by kernel_rfl) (by decide) (fun K hK => ?_)
      refine Kd.R_append_step k143 base (by rfl) (.tmp 38) (.tmp 42) 53 143 (.agg #[.int .i64 0, .int .i64 0, .int .i64 0, .int .u64 0]) 32 rfl Try.underlying53 info143 rfl (by decide) (by omega) (.slice A l.length c) l (⟨pk, ps, pp, x⟩ : S143) [.int .i64 pk, .int .i64 ps, .int .i64 pp, .int .u64 x] (fun _ => True) (fun _ => False) rfl rfl (k143_mkM _ _ _ ⟨pk, ps, pp, x⟩) (fun _ hk => hk.elim) (fun _ _ => trivial) KR.out KB.out KS.out (by have := HL.out; omega) ?_
      intro v1 w3 ho hb hg hat
      obtain ⟨Aw, cw, e1, _, _⟩ := Kd.R_reads ho
      rw [List.length_append, List.length_singleton] at e1
      subst e1
      have RO := Aside0.mk ho
      have RB := Aside0.mk hb
      have RG := Aside0.mk hg
      have RA := Aside0.mk hat
      have MBLK := Aside0.mk (blk_grown KBLK.out hg (Kd.R_ne KR.out KBLK.out HTU.out.symm))
      clear ho hb hg hat
      refine hK.out _ _ ?_
      clear hK K
      refine norm_ (a' := ?_) ?_ ?_
      rotate_left
      · show Act.put _ (some 43) _ = _
        simp only [Act.put, List.setIfInBounds_toArray, List.set_cons_zero, List.set_cons_succ, i64_w, i32_w]
        rfl
      refine pS (v := ?_) (a' := ?_) 10 (some 44) (lb 13 2047) rfl rfl (by kernel_rfl) (fun _ _ _ h => h) (by rfl) ?_ ?_ ?_; rotate_left; (intro w'; go_simp; with_reducible rfl); rotate_left; (simp only [Act.put, List.setIfInBounds_toArray, List.set_cons_zero, List.set_cons_succ, i64_w, i32_w]; rfl)
      refine pS (v := ?_) (a' := ?_) 11 (some 45) (lb 13 4095) rfl rfl (by kernel_rfl) (fun _ _ _ h => h) (by rfl) ?_ ?_ ?_; rotate_left; (intro w'; go_simp; with_reducible rfl); rotate_left; (simp only [Act.put, List.setIfInBounds_toArray, List.set_cons_zero, List.set_cons_succ, i64_w, i32_w]; rfl)
      refine last_ (i := 12) (N := none) (lb 13 8191) rfl rfl (by kernel_rfl) (by decide) (fun K hK => ?_)
      have z0 : w3.cell? ⟨gu, off, none⟩ = some (.slice A l.length c) := (blk_cell MBLK.out off).trans HCS.out
      have y0 : w3.frozen? ⟨gu, off, none⟩ = false := blk_frozen MBLK.out off
      refine skip_ (w1 := ?_) (by rfl) rfl ?_ ?_
      rotate_left
      · go_simp
        rfl
      clear z0 y0
      refine hK.out _ _ ?_
      clear hK K
      refine done_ (by kernel_rfl) ?_
      go_wp2_with fail
      refine bodyPost_end (results_none rfl _ _ _) rfl ?_
      rw [E.out]
      refine ⟨rfl, _, Kd.R_set RO.out MBLK.out (fun q hq => ?_) off _, blk_set MBLK.out off _, RB.out.setCell (p := ⟨gu, off, none⟩) HBG.out _, ⟨?_, fun k hk h1 h2 => ?_⟩, ?_⟩
      · have : q = 143 := by simpa [k143, Kd.iso, Kd.pair, Kd.int, Kd.scalar] using hq
        rw [this]
        exact HTU.out.symm
      · have h1 := RG.out.size
        have h2 := HBB.out.size
        simp only [World.setCell, Array.size_modify]
        exact Nat.le_trans h2 h1
      · exact (Below.heap_setCell w3 ⟨gu, off, none⟩ _ k h1).trans ((RG.out.block k (Nat.lt_of_lt_of_le hk HBB.out.size) h2).trans (HBB.out.block k hk))
      · rcases RA.out with h | ⟨b, h1, h2⟩
        · exact .inl h
        · exact .inr ⟨b, h1, Nat.le_trans HBB.out.size h2⟩
end Go.Proofs.Ytlpnggapndokeaa.PIdealKeeps

namespace Go.Proofs.Ytlpnggapndokeaa.PIdealKeeps
open Go Go.RowKit Go.Proofs.YtlpnggapndokeaaW.PrintWords Go.Proofs.YtlpnggapndokeaaW.PrintLast Go.Proofs.YtlpnggapndokeaaW.PrintMore Go.Proofs.Ytlpnggapndokeaa.M
attribute [local go_sem] max2_int min2_int max_two min_two max_three min_three max_four min_four
set_option linter.unusedVariables false
set_option linter.unusedSimpArgs false
/-- What a birth in the reference leaves: the row's new value, and where. -/
def RPost (w0 w : World) (base gu : Nat) (cs : Array Value) (tu : TypeId) (off : Nat) (v : Value) (l : List Int) (r : Value) (e : Ending) (w' : World) : Prop :=
  e = .returned r ∧ ∃ v', (Kd.int .i64).R 3 w' base (fun _ => True) v' l ∧ w'.heap[gu]? = some (.cells (cs.setIfInBounds off v') tu (0, 0)) ∧ Below base w0 w' ∧ KeepBut w w' gu v.ownBlock ∧ (v'.ownBlock = v.ownBlock ∨ ∃ b, v'.ownBlock = some b ∧ w.heap.size ≤ b)
theorem keep_drew {w w1 : World} {g : Nat} {row : Option Nat} (h : KeepBut w w1 g row) : KeepBut w w1.drew g row := ⟨h.1, h.2⟩
set_option maxHeartbeats 4000000 in
set_option maxRecDepth 100000 in
theorem rborn_T (base gu off : Nat) (cs : Array Value) (tu : TypeId) (v : Value) (row : List Int) (slot : Int) (w0 w : World) (hblk : w.heap[gu]? = some (.cells cs tu (0, 0))) (hcs : cs[off]? = some v) (htu : tu ≠ 3) (hR : (Kd.int .i64).R 3 w base (fun _ => True) v row) (hb : base ≤ gu) (hB : Below base w0 w) (hbs : base ≤ w.heap.size) (hl : row.length ≤ 100000) :
    Calls Try.prog 70 #[.pointer (some ⟨gu, off, none⟩), .int .i64 slot] w (RPost w0 w base gu cs tu off v (bornRow row slot) (.int .i64 (bornId row slot))) := by
  have hu58 := Try.underlying58
  by_cases hs : slot < 1
  · have t1 : decide (slot < 1) = true := decide_eq_true hs
    have HR := Aside0.mk hR
    have HB := Aside0.mk hB
    have HBLK := Aside0.mk hblk
    have HCS := Aside0.mk hcs
    have E1 := Aside0.mk (show bornId row slot = 0 from if_pos hs)
    have E3 := Aside0.mk (show bornRow row slot = row from if_pos hs)
    clear hR hB hl hs hblk hcs htu hb hbs
    go_enter Try.func70, Try.ntmps70
    go_wp2_with fail
    go_ret
    rw [E1.out, E3.out]
    exact ⟨rfl, v, HR.out, (by rw [set_same HCS.out]; exact HBLK.out), HB.out, KeepBut.refl _ _ _, .inl rfl⟩
  · have t1 : decide (slot < 1) = false := decide_eq_false hs
    have c0 : w.cell? ⟨gu, off, none⟩ = some v := (blk_cell hblk off).trans hcs
    have HR := Aside0.mk hR
    have HB := Aside0.mk hB
    have HBLK := Aside0.mk hblk
    have HCS := Aside0.mk hcs
    have HTU := Aside0.mk htu
    have HBG := Aside0.mk hb
    have HBS := Aside0.mk hbs
    have HL := Aside0.mk hl
    have E1 := Aside0.mk (show bornId row slot = ((row.length : Int) + 1) from if_neg hs)
    have E3 := Aside0.mk (show bornRow row slot = row ++ [slot] from if_neg hs)
    clear hR hB hl hs hblk hcs htu hb hbs
    go_enter Try.func70, Try.ntmps70
    go_wp2_with (first | ((with_reducible refine gate_builtin (b := .append) (xs := #[.tmp 11, .tmp 13]) rfl ?_); at_builtin; refine Kd.R_append (Kd.int .i64) base rfl (.tmp 11) (.tmp 13) 56 3 (.int .i64 0) 8 rfl Try.underlying56 info3' rfl (by decide) (by omega) v row slot [.int .i64 slot] (fun _ => True) (fun _ => False) rfl rfl ?aP (fun _ hk => hk.elim) (fun _ _ => trivial) HR.out HB.out ?aS ?aL ?_; (case aP => rfl); (case aS => exact HBS.out); (case aL => have := HL.out; omega); intro v1 w1 ho hb hg hat; obtain ⟨A1, k1, e1, hk1, hC1⟩ := Kd.R_reads ho; rw [show (row ++ [slot]).length = row.length + 1 by simp] at e1; subst e1; have HO := Aside0.mk ho; have HB1 := Aside0.mk hb; have HG := Aside0.mk hg; have HAT := Aside0.mk hat; have HBK := Aside0.mk (blk_grown HBLK.out hg (Kd.R_ne HR.out HBLK.out HTU.out.symm)); have hf1 := blk_frozen HBK.out off; have hc1 : w1.cell? ⟨gu, off, none⟩ = some v := (blk_cell HBK.out off).trans HCS.out; clear ho hb hg hat hk1 hC1))
    go_ret
    rw [E1.out, E3.out]
    refine ⟨rfl, _, Kd.R_set HO.out HBK.out (fun q hq => ?_) off _, ?_, HB1.out.setCell (p := ⟨gu, off, none⟩) HBG.out _, (KeepBut.of_grown HG.out gu).set_ off _, HAT.out⟩
    · have : q = 3 := by simpa [Kd.int, Kd.scalar] using hq
      rw [this]; exact HTU.out.symm
    · exact blk_put HBK.out off _ rfl
theorem R_emptyR {α : Type} (d : Kd α) (e : Nat) (W : World) (ok : Nat → Prop) (hf : ok W.heap.size) : d.R e (W.alloc (.cells #[] e)) W.heap.size ok (.slice (some ⟨W.heap.size, 0, none⟩) 0 0) [] := by
  refine ⟨fun k hk => ?_, [], ?_, Reps.none _ _⟩
  · have : W.heap.size = k := by simpa [Value.ownBlock] using hk
    subst this
    exact hf
  · have h2 := World.ownsRow_lit (base := W.heap.size) (e := e) (size := d.sz) W #[] 0 (Nat.le_refl _) (by simp [maxLen]) (by simp)
    simpa using h2
def allF (row : List Int) (slot : Int) : Nat → List Int
  | 0 => []
  | n + 1 => if row.getD n 0 = slot then allF row slot n ++ [(n : Int) + 1] else allF row slot n
def nowN (row : List Int) (slot : Int) : Nat → Int
  | 0 => 0
  | n + 1 => if row.getD n 0 = slot then (n : Int) + 1 else nowN row slot n
theorem allF_len (row : List Int) (slot : Int) : ∀ n, (allF row slot n).length ≤ n
  | 0 => Nat.le_refl _
  | n + 1 => by
    have := allF_len row slot n
    simp only [allF]
    split
    · simp; omega
    · omega
theorem allF_last (row : List Int) (slot : Int) : ∀ n, (allF row slot n = [] → nowN row slot n = 0) ∧ (allF row slot n ≠ [] → (allF row slot n).getD ((allF row slot n).length - 1) 0 = nowN row slot n)
  | 0 => ⟨fun _ => rfl, fun h => (h rfl).elim⟩
  | n + 1 => by
    have ih := allF_last row slot n
    simp only [allF, nowN]
    split
    · refine ⟨fun h => absurd h (by simp), fun _ => ?_⟩
      rw [List.length_append, List.length_singleton, Nat.add_sub_cancel]
      simp [List.getD_eq_getElem?_getD]
    · exact ih
theorem nowN_app (row ys : List Int) (slot : Int) : ∀ n, n ≤ row.length → nowN (row ++ ys) slot n = nowN row slot n
  | 0, _ => rfl
  | n + 1, h => by
    have ih := nowN_app row ys slot n (by omega)
    simp only [nowN]
    have e : (row ++ ys).getD n 0 = row.getD n 0 := by
      simp only [List.getD_eq_getElem?_getD, List.getElem?_append_left (show n < row.length by omega)]
    rw [e, ih]
def nowR (row : List Int) (slot : Int) : Int := nowN row slot row.length
theorem nowR_nil (slot : Int) : nowR [] slot = 0 := rfl
theorem nowR_app (row : List Int) (s t : Int) : nowR (row ++ [s]) t = if s = t then (row.length : Int) + 1 else nowR row t := by
  unfold nowR
  rw [List.length_append, List.length_singleton]
  simp only [nowN]
  have e : (row ++ [s]).getD row.length 0 = s := by simp [List.getD_eq_getElem?_getD]
  rw [e, nowN_app _ _ _ _ (Nat.le_refl _)]
set_option maxHeartbeats 4000000 in
set_option maxRecDepth 100000 in
theorem rall_T (gu off : Nat) (A : Option Addr) (c : Nat) (row : List Int) (slot : Int) (w : World) (hc : w.cell? ⟨gu, off, none⟩ = some (.slice A row.length c)) (hC : Kd.C (Kd.int .i64) w A row.length row) (hl : row.length ≤ 100000) :
    Calls Try.prog 76 #[.pointer (some ⟨gu, off, none⟩), .int .i64 slot] w fun e w' => ∃ v, e = .returned v ∧ (Kd.int .i64).R 3 w' w.heap.size (fun _ => True) v (allF row slot row.length) ∧ Below w.heap.size w w' := by
  have hu58 := Try.underlying58
  have HC := Aside0.mk hC
  have HCC := Aside0.mk hc
  have HL := Aside0.mk hl
  have HG := Aside0.mk (World.block_lt_of_cell? w _ hc)
  have B0 := Aside0.mk (below_alloc (Below.refl w.heap.size w) (.cells #[] 3))
  have R0 := Aside0.mk (R_emptyR (Kd.int .i64) 3 w (fun _ => True) trivial)
  clear hc hC hl
  go_enter Try.func76, Try.ntmps76
  go_wp2_with fail
  generalize w.alloc (.cells #[] 3) = w1 at *
  go_loopg [5, 6] row.length (fun kq v5 v6 w' => ∃ (i : Int) (v : Value), v = v5 ∧ v6 = .int .i64 i ∧ Aside0 (0 ≤ i ∧ i + kq = row.length) ∧ Aside0 (Below w.heap.size w w') ∧ Aside0 ((Kd.int .i64).R 3 w' w.heap.size (fun _ => True) v (allF row slot i.toNat)))
  case atStart => exact ⟨0, _, rfl, rfl, ⟨by omega⟩, B0, R0⟩
  case round =>
    obtain ⟨i, v, rfl, rfl, HK, HB, HR⟩ := hrel
    have c0 : wr.cell? ⟨gu, off, none⟩ = some (.slice A row.length c) := (HB.out.cell (p := ⟨gu, off, none⟩) HG.out).trans HCC.out
    by_cases hi : i < (row.length : Int)
    · have t1 : decide (i < (row.length : Int)) = true := decide_eq_true hi
      have p0 : (0 : Int) ≤ i := HK.out.1
      have q0 : i < (row.length : Int) := hi
      have q1 := Aside0.mk (show 0 ≤ i ∧ i < (row.length : Int) from ⟨p0, hi⟩)
      clear hi
      obtain ⟨ko, rfl⟩ : ∃ m, gk = m + 1 := ⟨gk - 1, by have := HK.out; omega⟩
      obtain ⟨ad, cs, e0, _, hKx, hc0⟩ := Kd.C_get HC.out 0 i p0 q0
      cases e0
      have hcs : cs = [.int .i64 (row.getD i.toNat 0)] := hKx
      subst hcs
      have hx0 : w.cell? (ad.add (i.toNat * 1)) = some (.int .i64 (row.getD i.toNat 0)) := hc0 0 _ rfl
      replace hx0 := (HB.out.cell (World.block_lt_of_cell? w _ hx0)).trans hx0
      rw [Nat.mul_one] at hx0
      have AF := Aside0.mk (show allF row slot (i + 1).toNat = if row.getD i.toNat 0 = slot then allF row slot i.toNat ++ [i + 1] else allF row slot i.toNat by
        rw [show (i + 1).toNat = i.toNat + 1 by omega]
        simp only [allF]
        rw [show ((i.toNat : Int)) = i by omega])
      clear hKx hc0
      have p0b : decide (0 ≤ i) = true := decide_eq_true p0
      have wi : wrap64 (i + 1) = i + 1 := by have := q1.out; have := HL.out; unfold wrap64; omega
      replace p0 := eq_true p0
      replace q0 := eq_true q0
      generalize row.getD i.toNat 0 = y at *
      by_cases he : y = slot
      · subst he
        have t2 : (y == y) = true := beq_self_eq_true y
        have E := Aside0.mk (AF.out.trans (if_pos rfl))
        go_wp2_with (first | ((with_reducible refine gate_builtin (b := .append) (xs := #[.tmp 26, .tmp 29]) rfl ?_); at_builtin; refine Kd.R_append (Kd.int .i64) w.heap.size rfl (.tmp 26) (.tmp 29) 56 3 (.int .i64 0) 8 rfl Try.underlying56 info3' rfl (by decide) (by omega) v (allF row y i.toNat) (i + 1) [.int .i64 (i + 1)] (fun _ => True) (fun _ => False) rfl rfl ?aP (fun _ hk => hk.elim) (fun _ _ => trivial) HR.out HB.out ?aS ?aL ?_; (case aP => rfl); (case aS => exact HB.out.size); (case aL => have := HL.out; have := q1.out; have := allF_len row y i.toNat; omega); intro v1 w2 ho hb hg hat; have HO := Aside0.mk ho; have HB1 := Aside0.mk hb; clear ho hb hg hat))
        go_roundg ko
        case rel => exact ⟨i + 1, _, rfl, by first | rfl | rw [wi], ⟨by have := HK.out; have := q1.out; omega⟩, HB1, ⟨by rw [E.out]; exact HO.out⟩⟩
        case measure => exact Nat.lt_succ_self _
      · have t2 : (y == slot) = false := beq_eq_false_iff_ne.2 he
        have E := Aside0.mk (AF.out.trans (if_neg he))
        clear he
        go_wp2_with fail
        go_roundg ko
        case rel => exact ⟨i + 1, _, rfl, by first | rfl | rw [wi], ⟨by have := HK.out; have := q1.out; omega⟩, HB, ⟨by rw [E.out]; exact HR.out⟩⟩
        case measure => exact Nat.lt_succ_self _
    · have t1 : decide (i < (row.length : Int)) = false := decide_eq_false hi
      have E := Aside0.mk (show i.toNat = row.length by have := HK.out; omega)
      clear hi
      go_wp2_with fail
      go_ret
      refine ⟨v, rfl, ?_, HB.out⟩
      rw [← E.out]
      exact HR.out
set_option maxHeartbeats 4000000 in
set_option maxRecDepth 100000 in
theorem rnow_T (gu off : Nat) (A : Option Addr) (c : Nat) (row : List Int) (slot : Int) (w : World) (hc : w.cell? ⟨gu, off, none⟩ = some (.slice A row.length c)) (hC : Kd.C (Kd.int .i64) w A row.length row) (hl : row.length ≤ 100000) :
    Calls Try.prog 71 #[.pointer (some ⟨gu, off, none⟩), .int .i64 slot] w fun e w' => e = .returned (.int .i64 (nowR row slot)) ∧ Below w.heap.size w w' := by
  have HX := Aside0.mk (rall_T gu off A c row slot w hc hC hl)
  have HL := Aside0.mk hl
  clear hc hC hl
  go_enter Try.func71, Try.ntmps71
  go_wp2_with fail
  refine HX.out.mono ?_
  rintro e w' ⟨v, rfl, hR, hB⟩
  have HB := Aside0.mk hB
  have FL := Aside0.mk (allF_last row slot row.length)
  have FN := Aside0.mk (allF_len row slot row.length)
  have NR := Aside0.mk (show nowR row slot = nowN row slot row.length from rfl)
  clear hB
  generalize allF row slot row.length = l at *
  generalize nowN row slot row.length = n at *
  obtain ⟨A1, c1, rfl, hcc, hC⟩ := Kd.R_reads hR
  by_cases h0 : l.length = 0
  · have t1 : ((l.length : Int) == 0) = true := beq_iff_eq.2 (by omega)
    have E := Aside0.mk (NR.out.trans (FL.out.1 (List.length_eq_zero_iff.1 h0)))
    clear hR hcc hC h0
    go_wp2_with fail
    go_ret
    rw [E.out]
    exact ⟨rfl, HB.out⟩
  · have t1 : ((l.length : Int) == 0) = false := beq_eq_false_iff_ne.2 (by omega)
    obtain ⟨L, hL⟩ : ∃ L : Int, L = (l.length : Int) - 1 := ⟨_, rfl⟩
    have p0 : (0 : Int) ≤ L := by omega
    have q0 : L < (l.length : Int) := by omega
    obtain ⟨ad, cs, e0, _, hKx, hc0⟩ := Kd.C_get hC 0 L p0 q0
    cases e0
    have hcs : cs = [.int .i64 (l.getD L.toNat 0)] := hKx
    subst hcs
    have hx0 : w'.cell? (ad.add (L.toNat * 1)) = some (.int .i64 (l.getD L.toNat 0)) := hc0 0 _ rfl
    rw [Nat.mul_one] at hx0
    have E := Aside0.mk (NR.out.trans (FL.out.2 (fun e => h0 (by rw [e]; rfl))).symm)
    have wi : wrap64 ((l.length : Int) - 1) = L := by have := FN.out; have := HL.out; rw [hL]; unfold wrap64; omega
    have p0b : decide (0 ≤ L) = true := decide_eq_true p0
    replace p0 := eq_true p0
    replace q0 := eq_true q0
    have ei : L.toNat = l.length - 1 := by omega
    have E := Aside0.mk (show nowR row slot = l.getD L.toNat 0 by rw [ei]; exact E.out)
    clear hL ei
    generalize l.getD L.toNat 0 = y at *
    clear hKx hc0 hR hcc hC h0
    go_wp2_with fail
    go_ret
    refine ⟨?_, HB.out⟩
    rw [E.out]
    rfl
end Go.Proofs.Ytlpnggapndokeaa.PIdealKeeps

namespace Go.Proofs.Ytlpnggapndokeaa.PIdealKeeps
open Go Go.RowKit Go.Proofs.YtlpnggapndokeaaW.PrintWords Go.Proofs.YtlpnggapndokeaaW.PrintLast Go.Proofs.YtlpnggapndokeaaW.PrintMore Go.Proofs.Ytlpnggapndokeaa.M
attribute [local go_sem] max2_int min2_int max_two min_two max_three min_three max_four min_four
set_option linter.unusedVariables false
set_option linter.unusedSimpArgs false
def whereR (kd sl pt id : Int) : K3 := if kd = 5 ∧ pt ≥ 0 ∧ pt ≠ 1 ∧ pt ≠ 2 then (9, id, pt) else (kd, sl, pt)
/-- The reference's place tells the cell apart as the program's does. -/
theorem where_inj {kd sl pt id kd' sl' pt' id' : Int} (h : kd ≠ 9) (h' : kd' ≠ 9) : whereR kd sl pt id = whereR kd' sl' pt' id' ↔ ofK kd sl pt id = ofK kd' sl' pt' id' := by
  unfold whereR ofK
  by_cases c : kd = 5 ∧ pt ≥ 0 ∧ pt ≠ 1 ∧ pt ≠ 2 <;> by_cases c' : kd' = 5 ∧ pt' ≥ 0 ∧ pt' ≠ 1 ∧ pt' ≠ 2
  · rw [if_pos c, if_pos c', if_pos c, if_pos c']
    simp [Prod.ext_iff]; omega
  · rw [if_pos c, if_neg c', if_pos c, if_neg c']
    simp only [Prod.mk.injEq]
    constructor
    · rintro ⟨e, _⟩; exact absurd e.symm h'
    · rintro ⟨e, e2, e3, e4⟩
      exact absurd ⟨e.symm, e3 ▸ c.2⟩ c'
  · rw [if_neg c, if_pos c', if_neg c, if_pos c']
    simp only [Prod.mk.injEq]
    constructor
    · rintro ⟨e, _⟩; exact absurd e h
    · rintro ⟨e, e2, e3, e4⟩
      exact absurd ⟨e, e3 ▸ c'.2⟩ c
  · rw [if_neg c, if_neg c', if_neg c, if_neg c']
    simp only [Prod.mk.injEq, and_true]
set_option maxHeartbeats 4000000 in
set_option maxRecDepth 100000 in
theorem where_T (kd sl pt id a b c : Int) (w : World) (h9 : kd ≠ 9) (h : whereR kd sl pt id = (a, b, c)) :
    Calls Try.prog 82 #[.agg #[.int .i64 kd, .int .i64 sl, .int .i64 pt], .int .i64 id] w fun e w' => e = .returned (.agg #[.int .i64 a, .int .i64 b, .int .i64 c]) ∧ Below w.heap.size w w' := by
  have hu23 := Try.underlying23
  unfold whereR at h
  by_cases k5 : kd = 5
  · subst k5
    by_cases p0 : pt ≥ 0
    · have t0 : decide (pt ≥ 0) = true := decide_eq_true p0
      by_cases p1 : pt = 1
      · subst p1
        rw [if_neg (by omega)] at h
        cases h
        clear h9 p0 t0
        go_enter Try.func82, Try.ntmps82
        go_wp2_with fail
        exact bodyPost_ret (results_cell_row rfl _ _ (w.heap.size + 1) 23 #[.int .i64 5, .int .i64 sl, .int .i64 1] (0, 0) _ rfl (blk_new2 w _ _) Try.underlying23 rfl (by kernel_rfl)) rfl ⟨rfl, below_alloc (below_alloc (Below.refl w.heap.size w) _) _⟩
      · have t1 : (pt != 1) = true := bne_iff_ne.2 p1
        by_cases p2 : pt = 2
        · subst p2
          rw [if_neg (by omega)] at h
          cases h
          clear h9 p0 t0 p1 t1
          go_enter Try.func82, Try.ntmps82
          go_wp2_with fail
          exact bodyPost_ret (results_cell_row rfl _ _ (w.heap.size + 1) 23 #[.int .i64 5, .int .i64 sl, .int .i64 2] (0, 0) _ rfl (blk_new2 w _ _) Try.underlying23 rfl (by kernel_rfl)) rfl ⟨rfl, below_alloc (below_alloc (Below.refl w.heap.size w) _) _⟩
        · have t2 : (pt != 2) = true := bne_iff_ne.2 p2
          rw [if_pos ⟨rfl, p0, p1, p2⟩] at h
          cases h
          clear h9 p0 p1 p2
          go_enter Try.func82, Try.ntmps82
          go_wp2_with fail
          exact bodyPost_ret (results_cell_row rfl _ _ (w.heap.size + 1) 23 #[.int .i64 9, .int .i64 id, .int .i64 pt] (0, 0) _ rfl (blk_new2 w _ _) Try.underlying23 rfl (by kernel_rfl)) rfl ⟨rfl, below_alloc (below_alloc (Below.refl w.heap.size w) _) _⟩
    · have t0 : decide (pt ≥ 0) = false := decide_eq_false p0
      rw [if_neg (fun x => p0 x.2.1)] at h
      cases h
      clear h9 p0
      go_enter Try.func82, Try.ntmps82
      go_wp2_with fail
      exact bodyPost_ret (results_cell_row rfl _ _ (w.heap.size + 1) 23 #[.int .i64 5, .int .i64 sl, .int .i64 pt] (0, 0) _ rfl (blk_new2 w _ _) Try.underlying23 rfl (by kernel_rfl)) rfl ⟨rfl, below_alloc (below_alloc (Below.refl w.heap.size w) _) _⟩
  · rw [if_neg (fun x => k5 x.1)] at h
    cases h
    have t5 : (kd == 5) = false := beq_eq_false_iff_ne.2 k5
    have t9 : (kd == 9) = false := beq_eq_false_iff_ne.2 h9
    clear h9 k5
    go_enter Try.func82, Try.ntmps82
    go_wp2_with fail
    exact bodyPost_ret (results_cell_row rfl _ _ (w.heap.size + 1) 23 #[.int .i64 kd, .int .i64 sl, .int .i64 pt] (0, 0) _ rfl (blk_new2 w _ _) Try.underlying23 rfl (by kernel_rfl)) rfl ⟨rfl, below_alloc (below_alloc (Below.refl w.heap.size w) _) _⟩
end Go.Proofs.Ytlpnggapndokeaa.PIdealKeeps

namespace Go.Proofs.Ytlpnggapndokeaa.PIdealKeeps
open Go Go.RowKit Go.Proofs.YtlpnggapndokeaaW.PrintWords Go.Proofs.YtlpnggapndokeaaW.PrintLast Go.Proofs.YtlpnggapndokeaaW.PrintMore Go.Proofs.Ytlpnggapndokeaa.M
attribute [local go_sem] max2_int min2_int max_two min_two max_three min_three max_four min_four
set_option linter.unusedVariables false
set_option linter.unusedSimpArgs false
structure RSt where
  W : List S143
  L : List S143
  R : List Int
/-- The reference's words, leads and births, at the head of a block. -/
structure RefAt (w0 w : World) (gu : Nat) (tu : TypeId) (ex : List Value) (orow : Option Nat) (U : RSt) : Prop where
  h : ∃ vW vL vR, w.heap[gu]? = some (.cells (vW :: vL :: vR :: ex).toArray tu (0, 0)) ∧ k143.R 143 w w0.heap.size (fun _ => True) vW U.W ∧ k143.R 143 w w0.heap.size (fun _ => True) vL U.L ∧ (Kd.int .i64).R 3 w w0.heap.size (fun _ => True) vR U.R ∧ (∀ k, vW.ownBlock = some k → vL.ownBlock ≠ some k) ∧ (∀ k, vR.ownBlock = some k → orow ≠ some k)
  b : w0.heap.size ≤ gu
  ob : ∀ k, orow = some k → k < w.heap.size
def IsT (t : TypeId) (o : Obj) : Prop := ∃ cs, o = .cells cs t (0, 0)
def RefS (w : World) (gu : Nat) (tu : TypeId) (j : Nat) (o : Obj) : Prop := w.heap[j]? = some o ∧ ((j = gu ∧ IsT tu o) ∨ IsT 143 o)
def RefB (w : World) (gu : Nat) (tu : TypeId) (orow : Option Nat) (j : Nat) (o : Obj) : Prop := w.heap[j]? = some o ∧ ((j = gu ∧ IsT tu o) ∨ (some j ≠ orow ∧ IsT 3 o))
theorem isT_eq {t t' : TypeId} {cs : Array Value} (h : IsT t (.cells cs t' (0, 0))) : t' = t := by
  obtain ⟨c, e⟩ := h
  injection e
theorem isT_map {t : TypeId} {es : Array MapEntry} {c : Nat} (h : IsT t (.map es c)) : False := by
  obtain ⟨c, e⟩ := h
  cases e
section
variable {w0 w w1 : World} {gu : Nat} {tu : TypeId} {ex : List Value} {orow orow' : Option Nat} {U : RSt} {S : Nat → Obj → Prop}
theorem row_kept {α : Type} {d : Kd α} {e base : Nat} {ok : Nat → Prop} {v : Value} {xs : List α} (hE : d.E = []) (h : d.R e w base ok v xs) (hf : Fr S w w1) (hs : ∀ k o, v.ownBlock = some k → w.heap[k]? = some o → IsT e o → ¬ S k o) : d.R e w1 base ok v xs := by
  refine Kd.R_reok hE (Kd.R_step (Kd.R_tight hE h) (fun k hk hlt => ?_)) (fun k hk => h.1 k hk)
  obtain ⟨cells, hc⟩ := Kd.R_typed h k hk.symm
  exact (hf.2 k _ hc (hs k _ hk.symm hc ⟨cells, rfl⟩)).trans hc.symm
theorem RefAt.fr (h : RefAt w0 w gu tu ex orow U) (hf : Fr S w w1) (hs : ∀ j o, w.heap[j]? = some o → ((j = gu ∧ IsT tu o) ∨ IsT 143 o ∨ (some j ≠ orow ∧ IsT 3 o)) → ¬ S j o) (ho : ∀ k, orow' = some k → (orow = some k ∨ w.heap.size ≤ k) ∧ k < w1.heap.size) : RefAt w0 w1 gu tu ex orow' U := by
  obtain ⟨⟨vW, vL, vR, hb, hW, hL, hR, ap, ao⟩, hg, hob⟩ := h
  refine ⟨⟨vW, vL, vR, hf.blk hb (hs _ _ hb (.inl ⟨rfl, _, rfl⟩)), row_kept rfl hW hf (fun k o _ hk ht => hs k o hk (.inr (.inl ht))), row_kept rfl hL hf (fun k o _ hk ht => hs k o hk (.inr (.inl ht))),
    row_kept rfl hR hf (fun k o hv hk ht => hs k o hk (.inr (.inr ⟨fun e => ao k hv e.symm, ht⟩))), ap, fun k hk e => ?_⟩, hg, fun k hk => (ho k hk).2⟩
  rcases (ho k e).1 with e2 | e2
  · exact ao k hk e2
  · have := Kd.R_lt hR k hk
    omega
theorem RefAt.fr1 (h : RefAt w0 w gu tu ex orow U) (hf : Fr S w w1) (hs : ∀ j o, w.heap[j]? = some o → ((j = gu ∧ IsT tu o) ∨ IsT 143 o ∨ IsT 3 o) → ¬ S j o) : RefAt w0 w1 gu tu ex orow U :=
  h.fr hf (fun j o hj x => hs j o hj (x.imp id (fun y => y.imp id (fun z => z.2)))) (fun k hk => ⟨.inl hk, Nat.lt_of_lt_of_le (h.ob k hk) hf.1⟩)
theorem RefAt.below (h : RefAt w0 w gu tu ex orow U) (hb : Below w.heap.size w w1) : RefAt w0 w1 gu tu ex orow U := h.fr1 (S := fun _ _ => False) ((Fr.refl _ w).below hb) (fun _ _ _ _ x => x)
theorem RefAt.alloc (h : RefAt w0 w gu tu ex orow U) (o : Obj) : RefAt w0 (w.alloc o) gu tu ex orow U := h.below (below_alloc (Below.refl _ _) o)
theorem RefAt.drew (h : RefAt w0 w gu tu ex orow U) : RefAt w0 w.drew gu tu ex orow U := h.below (below_drew (Below.refl _ _))
theorem RefAt.lt (h : RefAt w0 w gu tu ex orow U) : gu < w.heap.size := by
  obtain ⟨⟨vW, vL, vR, hb, _⟩, _⟩ := h
  exact blk_lt hb
/-- The words: read. -/
theorem rgetW_T (pk ps pp : Int) (h : RefAt w0 w gu tu ex orow U) (hl : U.W.length ≤ 100000) :
    Calls Try.prog 83 #[.pointer (some ⟨gu, 0, none⟩), .agg #[.int .i64 pk, .int .i64 ps, .int .i64 pp]] w fun e w' => e = .returned (.int .u64 (oget U.W (pk, ps, pp))) ∧ Below w.heap.size w w' := by
  obtain ⟨⟨vW, vL, vR, hb, hW, hL, hR, ap, ao⟩, hg, hob⟩ := h
  obtain ⟨A, c, rfl, hcc, hC⟩ := Kd.R_reads hW
  exact oget_T gu 0 A c U.W pk ps pp w ((blk_cell hb 0).trans rfl) hC hl
theorem rgetL_T (pk ps pp : Int) (h : RefAt w0 w gu tu ex orow U) (hl : U.L.length ≤ 100000) :
    Calls Try.prog 83 #[.pointer (some ⟨gu, 1, none⟩), .agg #[.int .i64 pk, .int .i64 ps, .int .i64 pp]] w fun e w' => e = .returned (.int .u64 (oget U.L (pk, ps, pp))) ∧ Below w.heap.size w w' := by
  obtain ⟨⟨vW, vL, vR, hb, hW, hL, hR, ap, ao⟩, hg, hob⟩ := h
  obtain ⟨A, c, rfl, hcc, hC⟩ := Kd.R_reads hL
  exact oget_T gu 1 A c U.L pk ps pp w ((blk_cell hb 1).trans rfl) hC hl
theorem rnowU_T (slot : Int) (h : RefAt w0 w gu tu ex orow U) (hl : U.R.length ≤ 100000) :
    Calls Try.prog 71 #[.pointer (some ⟨gu, 2, none⟩), .int .i64 slot] w fun e w' => e = .returned (.int .i64 (nowR U.R slot)) ∧ Below w.heap.size w w' := by
  obtain ⟨⟨vW, vL, vR, hb, hW, hL, hR, ap, ao⟩, hg, hob⟩ := h
  obtain ⟨A, c, rfl, hcc, hC⟩ := Kd.R_reads hR
  exact rnow_T gu 2 A c U.R slot w ((blk_cell hb 2).trans rfl) hC hl
theorem keep_fr {w1 : World} {g : Nat} {row : Option Nat} {S : Nat → Obj → Prop} (h : KeepBut w w1 g row) (hs : ∀ j o, w.heap[j]? = some o → (j = g ∨ some j = row) → S j o) : Fr S w w1 :=
  ⟨h.1, fun j o hj hn => (h.2 j (blk_lt hj) (fun e => hn (hs j o hj (.inl e))) (fun e => hn (hs j o hj (.inr e)))).trans hj⟩
/-- What a reference's access leaves. -/
def RefPost (w0 w : World) (gu : Nat) (tu : TypeId) (ex : List Value) (orow : Option Nat) (U : RSt) (r : Value) (e : Ending) (w' : World) : Prop :=
  e = .returned r ∧ RefAt w0 w' gu tu ex orow U ∧ Below w0.heap.size w0 w' ∧ Fr (RefS w gu tu) w w'
theorem rsetW_T (pk ps pp x : Int) (h : RefAt w0 w gu tu ex orow U) (hB : Below w0.heap.size w0 w) (htu : tu ≠ 143 ∧ tu ≠ 3) (hl : U.W.length ≤ 100000) :
    Calls Try.prog 85 #[.pointer (some ⟨gu, 0, none⟩), .agg #[.int .i64 pk, .int .i64 ps, .int .i64 pp], .int .u64 x] w (RefPost w0 w gu tu ex orow { U with W := oset U.W (pk, ps, pp) x } (.tuple #[])) := by
  obtain ⟨⟨vW, vL, vR, hb, hW, hL, hR, ap, ao⟩, hg, hob⟩ := h
  refine (oset_T w0.heap.size gu 0 _ tu vW U.W pk ps pp x w0 w hb rfl htu.1 hW hg hB hB.size hl).mono ?_
  rintro e w' ⟨rfl, v', h1, h2, h3, h4, h5⟩
  have hf : Fr (RefS w gu tu) w w' := keep_fr h4 (fun j o hj x => ⟨hj, by
    rcases x with x | x
    · subst x
      rw [hb] at hj
      injection hj with hj
      exact .inl ⟨rfl, _, hj.symm⟩
    · obtain ⟨cells, hc⟩ := Kd.R_typed hW j x.symm
      rw [hc] at hj
      injection hj with hj
      exact .inr ⟨_, hj.symm⟩⟩)
  have hgn : ∀ k, vL.ownBlock = some k → k ≠ gu := fun k hk e => by
    obtain ⟨cells, hc⟩ := Kd.R_typed hL k hk
    subst e
    exact blk_ne hb hc htu.1 rfl
  refine ⟨rfl, ⟨⟨v', vL, vR, h2, h1, ?_, ?_, ?_, ao⟩, hg, fun k hk => Nat.lt_of_lt_of_le (hob k hk) h4.1⟩, h3, hf⟩
  · refine row_kept rfl hL (keep_fr (S := fun j _ => j = gu ∨ some j = vW.ownBlock) h4 (fun j o hj x => x)) (fun k o hk hj ht x => ?_)
    rcases x with x | x
    · exact hgn k hk x
    · exact ap k x.symm hk
  · refine row_kept rfl hR hf (fun k o hk hj ht x => ?_)
    obtain ⟨cs, rfl⟩ := ht
    rcases x.2 with ⟨_, y⟩ | y
    · exact htu.2 (isT_eq y).symm
    · exact absurd (isT_eq y) (by decide)
  · intro k hk hk2
    rcases h5 with h5 | ⟨b, h5, h6⟩
    · exact ap k (h5 ▸ hk) hk2
    · rw [h5] at hk
      injection hk with hk
      have := Kd.R_lt hL k hk2
      omega
theorem rsetL_T (pk ps pp x : Int) (h : RefAt w0 w gu tu ex orow U) (hB : Below w0.heap.size w0 w) (htu : tu ≠ 143 ∧ tu ≠ 3) (hl : U.L.length ≤ 100000) :
    Calls Try.prog 85 #[.pointer (some ⟨gu, 1, none⟩), .agg #[.int .i64 pk, .int .i64 ps, .int .i64 pp], .int .u64 x] w (RefPost w0 w gu tu ex orow { U with L := oset U.L (pk, ps, pp) x } (.tuple #[])) := by
  obtain ⟨⟨vW, vL, vR, hb, hW, hL, hR, ap, ao⟩, hg, hob⟩ := h
  refine (oset_T w0.heap.size gu 1 _ tu vL U.L pk ps pp x w0 w hb rfl htu.1 hL hg hB hB.size hl).mono ?_
  rintro e w' ⟨rfl, v', h1, h2, h3, h4, h5⟩
  have hf : Fr (RefS w gu tu) w w' := keep_fr h4 (fun j o hj x => ⟨hj, by
    rcases x with x | x
    · subst x
      rw [hb] at hj
      injection hj with hj
      exact .inl ⟨rfl, _, hj.symm⟩
    · obtain ⟨cells, hc⟩ := Kd.R_typed hL j x.symm
      rw [hc] at hj
      injection hj with hj
      exact .inr ⟨_, hj.symm⟩⟩)
  have hgn : ∀ k, vW.ownBlock = some k → k ≠ gu := fun k hk e => by
    obtain ⟨cells, hc⟩ := Kd.R_typed hW k hk
    subst e
    exact blk_ne hb hc htu.1 rfl
  refine ⟨rfl, ⟨⟨vW, v', vR, h2, ?_, h1, ?_, ?_, ao⟩, hg, fun k hk => Nat.lt_of_lt_of_le (hob k hk) h4.1⟩, h3, hf⟩
  · refine row_kept rfl hW (keep_fr (S := fun j _ => j = gu ∨ some j = vL.ownBlock) h4 (fun j o hj x => x)) (fun k o hk hj ht x => ?_)
    rcases x with x | x
    · exact hgn k hk x
    · exact ap k hk x.symm
  · refine row_kept rfl hR hf (fun k o hk hj ht x => ?_)
    obtain ⟨cs, rfl⟩ := ht
    rcases x.2 with ⟨_, y⟩ | y
    · exact htu.2 (isT_eq y).symm
    · exact absurd (isT_eq y) (by decide)
  · intro k hk hk2
    rcases h5 with h5 | ⟨b, h5, h6⟩
    · exact ap k hk (h5 ▸ hk2)
    · rw [h5] at hk2
      injection hk2 with hk2
      have := Kd.R_lt hW k hk
      omega
def RefPostB (w0 w : World) (gu : Nat) (tu : TypeId) (ex : List Value) (orow : Option Nat) (U : RSt) (r : Value) (e : Ending) (w' : World) : Prop :=
  e = .returned r ∧ RefAt w0 w' gu tu ex orow U ∧ Below w0.heap.size w0 w' ∧ Fr (RefB w gu tu orow) w w'
theorem rbornU_T (slot : Int) (h : RefAt w0 w gu tu ex orow U) (hB : Below w0.heap.size w0 w) (htu : tu ≠ 143 ∧ tu ≠ 3) (hl : U.R.length ≤ 100000) :
    Calls Try.prog 70 #[.pointer (some ⟨gu, 2, none⟩), .int .i64 slot] w (RefPostB w0 w gu tu ex orow { U with R := bornRow U.R slot } (.int .i64 (bornId U.R slot))) := by
  obtain ⟨⟨vW, vL, vR, hb, hW, hL, hR, ap, ao⟩, hg, hob⟩ := h
  refine (rborn_T w0.heap.size gu 2 _ tu vR U.R slot w0 w hb rfl htu.2 hR hg hB hB.size hl).mono ?_
  rintro e w' ⟨rfl, v', h1, h2, h3, h4, h5⟩
  have hf : Fr (RefB w gu tu orow) w w' := keep_fr h4 (fun j o hj x => ⟨hj, by
    rcases x with x | x
    · subst x
      rw [hb] at hj
      injection hj with hj
      exact .inl ⟨rfl, _, hj.symm⟩
    · obtain ⟨cells, hc⟩ := Kd.R_typed hR j x.symm
      rw [hc] at hj
      injection hj with hj
      exact .inr ⟨fun e => ao j x.symm e.symm, _, hj.symm⟩⟩)
  refine ⟨rfl, ⟨⟨vW, vL, v', h2, ?_, ?_, h1, ap, ?_⟩, hg, fun k hk => Nat.lt_of_lt_of_le (hob k hk) h4.1⟩, h3, hf⟩
  · refine row_kept rfl hW hf (fun k o hk hj ht x => ?_)
    obtain ⟨cs, rfl⟩ := ht
    rcases x.2 with ⟨_, y⟩ | ⟨_, y⟩
    · exact htu.1 (isT_eq y).symm
    · exact absurd (isT_eq y) (by decide)
  · refine row_kept rfl hL hf (fun k o hk hj ht x => ?_)
    obtain ⟨cs, rfl⟩ := ht
    rcases x.2 with ⟨_, y⟩ | ⟨_, y⟩
    · exact htu.1 (isT_eq y).symm
    · exact absurd (isT_eq y) (by decide)
  · intro k hk e
    rcases h5 with h5 | ⟨b, h5, h6⟩
    · exact ao k (h5 ▸ hk) e
    · rw [h5] at hk
      injection hk with hk
      have := hob k e
      omega
/-- A block of another type stays. -/
theorem refS_stays (hf : Fr (RefS w gu tu) w w1) {p : Nat} {cs : Array Value} {t : TypeId} (hb : w.heap[p]? = some (.cells cs t (0, 0))) (h1 : t ≠ tu) (h2 : t ≠ 143) : w1.heap[p]? = some (.cells cs t (0, 0)) :=
  hf.blk hb (fun x => by
    rcases x.2 with ⟨_, y⟩ | y
    · exact h1 (isT_eq y)
    · exact h2 (isT_eq y))
theorem refB_stays (hf : Fr (RefB w gu tu orow) w w1) {p : Nat} {cs : Array Value} {t : TypeId} (hb : w.heap[p]? = some (.cells cs t (0, 0))) (h1 : t ≠ tu) (h2 : t ≠ 3) : w1.heap[p]? = some (.cells cs t (0, 0)) :=
  hf.blk hb (fun x => by
    rcases x.2 with ⟨_, y⟩ | ⟨_, y⟩
    · exact h1 (isT_eq y)
    · exact h2 (isT_eq y))
end
end Go.Proofs.Ytlpnggapndokeaa.PIdealKeeps

