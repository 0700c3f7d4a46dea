/-
States made of pairs.
-/
import Derived.Test.YtcphmelmieedfabSpecF
import Derived.Test.YtcphmelmieedfabMapK
namespace Go.Proofs.Ytcphmelmieedfab.PSpecExact
open Go Go.RowKit Go.Proofs.YtcphmelmieedfabW.PrintWords Go.Proofs.YtcphmelmieedfabW.PrintLast Go.Proofs.YtcphmelmieedfabW.PrintMore Go.Proofs.Ytcphmelmieedfab.M
attribute [local go_sem] max2_int min2_int max_two min_two max_three min_three max_four min_four
set_option linter.unusedVariables false
set_option linter.unusedSimpArgs false
theorem findNow_u64 (k : Int) : ∀ (es : List MapEntry) (ks : List Int) (i : Nat), es.map (·.key) = ks.map (fun k : Int => Value.int .u64 k) →
    Instr.findNow (.int .u64) (.int .u64 k) es i = some ((idx k ks).bind fun j => (es[j]?).map fun e => (i + j, e.val)) := by
  intro es
  induction es with
  | nil =>
    intro ks i h
    cases ks with
    | nil => rfl
    | cons a r => simp at h
  | cons e es ih =>
    intro ks i h
    cases ks with
    | nil => simp at h
    | cons a r =>
      simp only [List.map_cons, List.cons.injEq] at h
      simp only [Instr.findNow, h.1, Instr.sameNow, if_true, idx]
      by_cases hk : k = a
      · subst hk
        simp
      · have hb : (k == a) = false := beq_eq_false_iff_ne.mpr hk
        simp only [hb, if_neg hk]
        rw [ih r (i + 1) h.2]
        cases idx k r with
        | none => rfl
        | some j =>
          simp only [Option.map_some, Option.bind_some, List.getElem?_cons_succ]
          cases es[j]? with
          | none => rfl
          | some x => simp only [Option.map_some, Nat.add_assoc, Nat.add_comm 1 j]
theorem keyOf_u64 {P : Program} {kt : TypeId} (ht : P.underlying kt = some (.int .u64)) : KeyOf P kt (fun k : Int => Value.int .u64 k) where
  check b w k := by
    rw [show (10000 : Nat) = 9999 + 1 from rfl, Instr.checkKey]
    simp [run_underlying ht, Result.andThen]
  find w k ks es h := by
    have := findNow_u64 k es ks 0 h
    simp only [Nat.zero_add] at this
    simp [Instr.findKey, run_underlying ht, this, Result.andThen]
  stays w k := by
    have : Instr.sameBits 10000 (.int .u64 k) (.int .u64 k) = true := by simp [Instr.sameBits]
    simp [Instr.keyThatStays, this]
  inj k k' e := by cases e; rfl
def eU : Int → Value := fun k => .int .u64 k
def eI : Int → Value := fun k => .int .i64 k
theorem keyU : KeyOf Try.prog 23 eU := keyOf_u64 Try.underlying23
theorem zI (w : World) : (zeroValue 3).run Try.prog w = .ok (eI 0) w := by kernel_rfl
/-- What a row of pairs makes: the map of the keys seen, the place, the state and its error so far. -/
def newL (m : List (Int × Int)) (i : Int) (s : List S26) (e : Int) : List S26 → List S26 × Int
  | [] => if e = 0 then (s, 0) else ([], e)
  | p :: r => if (get m p.f0).isSome = true then ([], 1) else if e = 0 then newL (put m p.f0 i) (i + 1) (withV s p).1 (withV s p).2 r else newL (put m p.f0 i) (i + 1) s e r
def newV (l : List S26) : List S26 × Int := newL [] 0 [] 0 l
theorem withV_le (l : List S26) (p : S26) (h : l.length ≤ 16) : (withV l p).1.length ≤ 16 := by
  unfold withV
  split
  · simp [h]
  · split
    · simp
    · have := ins_len l (posF p.f0 l) p (posF_le _ _)
      simp only
      omega
theorem withoutV_le (l : List S26) (k : Int) (h : l.length ≤ 16) : (withoutV l k).length ≤ 16 := by
  unfold withoutV
  split
  · rename_i hf
    have hp : posF k l < l.length := by
      unfold isF at hf
      simp only [Bool.and_eq_true, decide_eq_true_eq] at hf
      exact hf.1
    have := del_len l (posF k l) hp
    omega
  · exact h
theorem k26_cells {w : World} {A : Option Addr} {n : Nat} {xs : List S26} (h : Kd.C k26 w A n xs) (i : Int) (h0 : 0 ≤ i) (h1 : i < n) : ∃ ad, A = some ad ∧ w.cell? (ad.add (i.toNat * 2)) = some (.int .u64 (xs.getD i.toNat ⟨0, 0⟩).f0) ∧ w.cell? ⟨(ad.add (i.toNat * 2)).block, (ad.add (i.toNat * 2)).off + 1, none⟩ = some (.int .u64 (xs.getD i.toNat ⟨0, 0⟩).f1) := by
  obtain ⟨ad, c, e, _, hK, hc0⟩ := Kd.C_get h ⟨0, 0⟩ i h0 h1
  have hc : ∀ j u, c[j]? = some u → w.cell? (ad.add (i.toNat * 2 + j)) = some u := hc0
  obtain ⟨_, _, rfl, rfl, rfl⟩ := hK
  exact ⟨ad, e, hc 0 _ rfl, by rw [← add_field _ _ 1 (by omega)]; exact hc 1 _ rfl⟩
set_option maxHeartbeats 16000000 in
set_option maxRecDepth 100000 in
theorem new_T (A : Option Addr) (c : Nat) (l : List S26) (w : World) (hC : Kd.C k26 w A l.length l) (hcc : l.length ≤ c) (hn : l.length ≤ 4611686018427387904) :
    Calls Try.prog 14 #[.slice A l.length c] w fun e w' => e = .returned (.tuple #[.agg (SV (newV l).1), .int .i64 (newV l).2]) ∧ (newV l).1.length ≤ 16 ∧ Below w.heap.size w w' := by
  have hu29 := Try.underlying29
  have hu26 := Try.underlying26
  have hmm := @run_makeMap Try.prog
  have HC := Aside0.mk hC
  have HN := Aside0.mk hn
  obtain ⟨R, hR⟩ : ∃ R, newV l = R := ⟨_, rfl⟩
  rw [hR]
  have HR := Aside0.mk hR
  have X0 := Aside0.mk (blk_alloc (blk_alloc (blk_new w (.cells #[.int .i64 0, .int .u64 0, .int .u64 0, .int .u64 0, .int .u64 0, .int .u64 0, .int .u64 0, .int .u64 0, .int .u64 0, .int .u64 0, .int .u64 0, .int .u64 0, .int .u64 0, .int .u64 0, .int .u64 0, .int .u64 0, .int .u64 0, .int .u64 0, .int .u64 0, .int .u64 0, .int .u64 0, .int .u64 0, .int .u64 0, .int .u64 0, .int .u64 0, .int .u64 0, .int .u64 0, .int .u64 0, .int .u64 0, .int .u64 0, .int .u64 0, .int .u64 0, .int .u64 0] 29)) (.cells #[.int .i64 0, .int .u64 0, .int .u64 0, .int .u64 0, .int .u64 0, .int .u64 0, .int .u64 0, .int .u64 0, .int .u64 0, .int .u64 0, .int .u64 0, .int .u64 0, .int .u64 0, .int .u64 0, .int .u64 0, .int .u64 0, .int .u64 0, .int .u64 0, .int .u64 0, .int .u64 0, .int .u64 0, .int .u64 0, .int .u64 0, .int .u64 0, .int .u64 0, .int .u64 0, .int .u64 0, .int .u64 0, .int .u64 0, .int .u64 0, .int .u64 0, .int .u64 0, .int .u64 0] 29)) (.map #[] 0))
  have X1 := Aside0.mk (blk_alloc (blk_new2 w (.cells #[.int .i64 0, .int .u64 0, .int .u64 0, .int .u64 0, .int .u64 0, .int .u64 0, .int .u64 0, .int .u64 0, .int .u64 0, .int .u64 0, .int .u64 0, .int .u64 0, .int .u64 0, .int .u64 0, .int .u64 0, .int .u64 0, .int .u64 0, .int .u64 0, .int .u64 0, .int .u64 0, .int .u64 0, .int .u64 0, .int .u64 0, .int .u64 0, .int .u64 0, .int .u64 0, .int .u64 0, .int .u64 0, .int .u64 0, .int .u64 0, .int .u64 0, .int .u64 0, .int .u64 0] 29) (.cells #[.int .i64 0, .int .u64 0, .int .u64 0, .int .u64 0, .int .u64 0, .int .u64 0, .int .u64 0, .int .u64 0, .int .u64 0, .int .u64 0, .int .u64 0, .int .u64 0, .int .u64 0, .int .u64 0, .int .u64 0, .int .u64 0, .int .u64 0, .int .u64 0, .int .u64 0, .int .u64 0, .int .u64 0, .int .u64 0, .int .u64 0, .int .u64 0, .int .u64 0, .int .u64 0, .int .u64 0, .int .u64 0, .int .u64 0, .int .u64 0, .int .u64 0, .int .u64 0, .int .u64 0] 29)) (.map #[] 0))
  have M0 := Aside0.mk (show MapIs eU eI (((w.alloc (.cells #[.int .i64 0, .int .u64 0, .int .u64 0, .int .u64 0, .int .u64 0, .int .u64 0, .int .u64 0, .int .u64 0, .int .u64 0, .int .u64 0, .int .u64 0, .int .u64 0, .int .u64 0, .int .u64 0, .int .u64 0, .int .u64 0, .int .u64 0, .int .u64 0, .int .u64 0, .int .u64 0, .int .u64 0, .int .u64 0, .int .u64 0, .int .u64 0, .int .u64 0, .int .u64 0, .int .u64 0, .int .u64 0, .int .u64 0, .int .u64 0, .int .u64 0, .int .u64 0, .int .u64 0] 29)).alloc (.cells #[.int .i64 0, .int .u64 0, .int .u64 0, .int .u64 0, .int .u64 0, .int .u64 0, .int .u64 0, .int .u64 0, .int .u64 0, .int .u64 0, .int .u64 0, .int .u64 0, .int .u64 0, .int .u64 0, .int .u64 0, .int .u64 0, .int .u64 0, .int .u64 0, .int .u64 0, .int .u64 0, .int .u64 0, .int .u64 0, .int .u64 0, .int .u64 0, .int .u64 0, .int .u64 0, .int .u64 0, .int .u64 0, .int .u64 0, .int .u64 0, .int .u64 0, .int .u64 0, .int .u64 0] 29)).alloc (.map #[] 0)) (w.heap.size + 1 + 1) [] from by have := MapIs.new (ek := eU) (ev := eI) (K := Int) (V := Int) ((w.alloc (.cells #[.int .i64 0, .int .u64 0, .int .u64 0, .int .u64 0, .int .u64 0, .int .u64 0, .int .u64 0, .int .u64 0, .int .u64 0, .int .u64 0, .int .u64 0, .int .u64 0, .int .u64 0, .int .u64 0, .int .u64 0, .int .u64 0, .int .u64 0, .int .u64 0, .int .u64 0, .int .u64 0, .int .u64 0, .int .u64 0, .int .u64 0, .int .u64 0, .int .u64 0, .int .u64 0, .int .u64 0, .int .u64 0, .int .u64 0, .int .u64 0, .int .u64 0, .int .u64 0, .int .u64 0] 29)).alloc (.cells #[.int .i64 0, .int .u64 0, .int .u64 0, .int .u64 0, .int .u64 0, .int .u64 0, .int .u64 0, .int .u64 0, .int .u64 0, .int .u64 0, .int .u64 0, .int .u64 0, .int .u64 0, .int .u64 0, .int .u64 0, .int .u64 0, .int .u64 0, .int .u64 0, .int .u64 0, .int .u64 0, .int .u64 0, .int .u64 0, .int .u64 0, .int .u64 0, .int .u64 0, .int .u64 0, .int .u64 0, .int .u64 0, .int .u64 0, .int .u64 0, .int .u64 0, .int .u64 0, .int .u64 0] 29)); simpa using this)
  have B0 := Aside0.mk (below_alloc (below_alloc (below_alloc (Below.refl w.heap.size w) (.cells #[.int .i64 0, .int .u64 0, .int .u64 0, .int .u64 0, .int .u64 0, .int .u64 0, .int .u64 0, .int .u64 0, .int .u64 0, .int .u64 0, .int .u64 0, .int .u64 0, .int .u64 0, .int .u64 0, .int .u64 0, .int .u64 0, .int .u64 0, .int .u64 0, .int .u64 0, .int .u64 0, .int .u64 0, .int .u64 0, .int .u64 0, .int .u64 0, .int .u64 0, .int .u64 0, .int .u64 0, .int .u64 0, .int .u64 0, .int .u64 0, .int .u64 0, .int .u64 0, .int .u64 0] 29)) (.cells #[.int .i64 0, .int .u64 0, .int .u64 0, .int .u64 0, .int .u64 0, .int .u64 0, .int .u64 0, .int .u64 0, .int .u64 0, .int .u64 0, .int .u64 0, .int .u64 0, .int .u64 0, .int .u64 0, .int .u64 0, .int .u64 0, .int .u64 0, .int .u64 0, .int .u64 0, .int .u64 0, .int .u64 0, .int .u64 0, .int .u64 0, .int .u64 0, .int .u64 0, .int .u64 0, .int .u64 0, .int .u64 0, .int .u64 0, .int .u64 0, .int .u64 0, .int .u64 0, .int .u64 0] 29)) (.map #[] 0))
  clear hC hn hR
  go_enter Try.func14, Try.ntmps14
  go_wp2_with fail
  generalize (((w.alloc (.cells #[.int .i64 0, .int .u64 0, .int .u64 0, .int .u64 0, .int .u64 0, .int .u64 0, .int .u64 0, .int .u64 0, .int .u64 0, .int .u64 0, .int .u64 0, .int .u64 0, .int .u64 0, .int .u64 0, .int .u64 0, .int .u64 0, .int .u64 0, .int .u64 0, .int .u64 0, .int .u64 0, .int .u64 0, .int .u64 0, .int .u64 0, .int .u64 0, .int .u64 0, .int .u64 0, .int .u64 0, .int .u64 0, .int .u64 0, .int .u64 0, .int .u64 0, .int .u64 0, .int .u64 0] 29)).alloc (.cells #[.int .i64 0, .int .u64 0, .int .u64 0, .int .u64 0, .int .u64 0, .int .u64 0, .int .u64 0, .int .u64 0, .int .u64 0, .int .u64 0, .int .u64 0, .int .u64 0, .int .u64 0, .int .u64 0, .int .u64 0, .int .u64 0, .int .u64 0, .int .u64 0, .int .u64 0, .int .u64 0, .int .u64 0, .int .u64 0, .int .u64 0, .int .u64 0, .int .u64 0, .int .u64 0, .int .u64 0, .int .u64 0, .int .u64 0, .int .u64 0, .int .u64 0, .int .u64 0, .int .u64 0] 29)).alloc (.map #[] 0)) = w1 at *
  go_loopg [5, 14] l.length (fun kq v5 v14 w' => ∃ (i e : Int) (s : List S26) (m : List (Int × Int)), v5 = .int .i64 e ∧ v14 = .int .i64 i ∧ Aside0 (0 ≤ i ∧ i + kq = l.length) ∧ Aside0 (s.length ≤ 16) ∧ Aside0 (newL m i s e (l.drop i.toNat) = R) ∧ Aside0 (w'.heap[w.heap.size]? = some (.cells #[.int .i64 0, .int .u64 0, .int .u64 0, .int .u64 0, .int .u64 0, .int .u64 0, .int .u64 0, .int .u64 0, .int .u64 0, .int .u64 0, .int .u64 0, .int .u64 0, .int .u64 0, .int .u64 0, .int .u64 0, .int .u64 0, .int .u64 0, .int .u64 0, .int .u64 0, .int .u64 0, .int .u64 0, .int .u64 0, .int .u64 0, .int .u64 0, .int .u64 0, .int .u64 0, .int .u64 0, .int .u64 0, .int .u64 0, .int .u64 0, .int .u64 0, .int .u64 0, .int .u64 0] 29 (0, 0))) ∧ Aside0 (w'.heap[w.heap.size + 1]? = some (.cells (SV s) 29 (0, 0))) ∧ Aside0 (MapIs eU eI w' (w.heap.size + 1 + 1) m) ∧ Aside0 (Below w.heap.size w w'))
  case atStart => exact ⟨0, 0, [], [], rfl, rfl, ⟨by omega⟩, ⟨by simp⟩, ⟨HR.out⟩, X0, ⟨X1.out⟩, M0, B0⟩
  case round =>
    obtain ⟨i, e, s, m, rfl, rfl, HK, HS, HE, X0, X1, HM, HB⟩ := hrel
    by_cases hi : i < (l.length : Int)
    · have t1 : decide (i < (l.length : Int)) = true := decide_eq_true hi
      have p0 : (0 : Int) ≤ i := HK.out.1
      have q0 : i < (l.length : Int) := hi
      have q1 := Aside0.mk (show 0 ≤ i ∧ i < (l.length : Int) from ⟨p0, hi⟩)
      obtain ⟨ko, rfl⟩ : ∃ m, gk = m + 1 := ⟨gk - 1, by have := HK.out; omega⟩
      obtain ⟨ad, e0, hx0, hx1⟩ := k26_cells HC.out i p0 hi
      subst e0
      replace hx0 := (HB.out.cell (World.block_lt_of_cell? w _ hx0)).trans hx0
      replace hx1 := (HB.out.cell (World.block_lt_of_cell? w _ hx1)).trans hx1
      obtain ⟨p, hp⟩ : ∃ p, l.getD i.toNat ⟨0, 0⟩ = p := ⟨_, rfl⟩
      have EP := Aside0.mk (show newL m i s e (p :: l.drop (i + 1).toNat) = R from by
        have hlt : i.toNat < l.length := by omega
        rw [← HE.out, ← hp, show (i + 1).toNat = i.toNat + 1 by omega, List.drop_eq_getElem_cons hlt, List.getD_eq_getElem?_getD, List.getElem?_eq_getElem hlt]
        rfl)
      rw [hp] at hx0 hx1
      clear hi hp
      have p0b : decide (0 ≤ i) = true := decide_eq_true p0
      have wi : wrap64 (i + 1) = i + 1 := by have := q1.out; have := HN.out; unfold wrap64; omega
      replace p0 := eq_true p0
      replace q0 := eq_true q0
      have BN := Aside0.mk (blk_new wr (.cells #[.int .u64 0, .int .u64 0] 26))
      have X0a := Aside0.mk (blk_alloc X0.out (.cells #[.int .u64 0, .int .u64 0] 26))
      have X1a := Aside0.mk (blk_alloc X1.out (.cells #[.int .u64 0, .int .u64 0] 26))
      have Ma := Aside0.mk (HM.out.below (below_alloc (Below.refl wr.heap.size wr) (.cells #[.int .u64 0, .int .u64 0] 26)))
      have Ba := Aside0.mk (below_alloc HB.out (.cells #[.int .u64 0, .int .u64 0] 26))
      have N0 := Aside0.mk (show w.heap.size ≠ wr.heap.size by have := blk_lt X0.out; omega)
      have N1 := Aside0.mk (show w.heap.size + 1 ≠ wr.heap.size by have := blk_lt X1.out; omega)
      have N2 := Aside0.mk (show w.heap.size + 1 + 1 ≠ wr.heap.size by have := HM.out.lt; omega)
      have LE := Aside0.mk (show w.heap.size ≤ wr.heap.size from HB.out.size)
      by_cases hd : (get m p.f0).isSome = true
      · have TD := Aside0.mk hd
        have ER : R = ([], 1) := by rw [← EP.out]; simp only [newL]; rw [if_pos hd]
        clear hd
        subst ER
        go_wp2_with (first
          | (refine store_whole (w := w) (B := w.heap.size) rfl rfl 26 (.tmp 8) (.tmp 18) rfl (g := wr.heap.size) (cs := #[.int .u64 p.f0, .int .u64 p.f1]) rfl _ rfl rfl (by kernel_rfl) (by simp [Value.oneCell']) BN.out rfl LE.out Ba.out ?_; intro w4 h1 h2 h3 h4; have BN4 := Aside0.mk h1; have B4 := Aside0.mk h2; have X04 := Aside0.mk ((h3 _ N0.out).trans X0a.out); have X14 := Aside0.mk ((h3 _ N1.out).trans X1a.out); have M4 := Aside0.mk (Ma.out.move (h3 _ N2.out)); clear h1 h2 h3 h4; have d0 : w4.cell? ⟨wr.heap.size, 0, none⟩ = some (.int .u64 p.f0) := (blk_cell BN4.out 0).trans rfl; have hlk : (Instr.lookup 71 (.map (some (w.heap.size + 1 + 1))) (.int .u64 p.f0) true).run Try.prog w4 = .ok (.tuple #[.int .i64 ((get m p.f0).getD 0), .bool true]) w4 := (look_ok keyU Try.underlying71 0 (zI w4) M4.out p.f0).trans (by rw [TD.out]; rfl))
          | (refine store_whole (w := w) (B := w.heap.size) rfl rfl 29 (.tmp 2) (.tmp 27) rfl (g := w.heap.size) (cs := SV []) rfl _ rfl rfl (stot _) (SV_one _) X04.out (by rw [SV_size]; rfl) (Nat.le_refl _) B4.out ?_; intro w5 h1 h2 h3 h4; have X05 := Aside0.mk h1; have B5 := Aside0.mk h2; clear h1 h2 h3 h4))
        refine bodyPost_ret (results_cell2 rfl _ _ w.heap.size 29 (SV []) (0, 0) _ rfl X05.out Try.underlying29 rfl (info29 _) rfl) rfl ?_
        first | exact ⟨rfl, B5.out⟩ | exact ⟨rfl, by simp, B5.out⟩
      · have TD := Aside0.mk (Bool.eq_false_iff.2 hd)
        have EQ := Aside0.mk (show (if e = 0 then newL (put m p.f0 i) (i + 1) (withV s p).1 (withV s p).2 (l.drop (i + 1).toNat) else newL (put m p.f0 i) (i + 1) s e (l.drop (i + 1).toNat)) = R from by rw [← EP.out]; simp only [newL]; rw [if_neg hd])
        clear hd
        by_cases he : e = 0
        · subst he
          have EQ2 := Aside0.mk (EQ.out ▸ (if_pos rfl : (if (0 : Int) = 0 then newL (put m p.f0 i) (i + 1) (withV s p).1 (withV s p).2 (l.drop (i + 1).toNat) else newL (put m p.f0 i) (i + 1) s 0 (l.drop (i + 1).toNat)) = _).symm)
          go_wp2_with (first
            | (refine store_whole (w := w) (B := w.heap.size) rfl rfl 26 (.tmp 8) (.tmp 18) rfl (g := wr.heap.size) (cs := #[.int .u64 p.f0, .int .u64 p.f1]) rfl _ rfl rfl (by kernel_rfl) (by simp [Value.oneCell']) BN.out rfl LE.out Ba.out ?_; intro w4 h1 h2 h3 h4; have BN4 := Aside0.mk h1; have B4 := Aside0.mk h2; have X04 := Aside0.mk ((h3 _ N0.out).trans X0a.out); have X14 := Aside0.mk ((h3 _ N1.out).trans X1a.out); have M4 := Aside0.mk (Ma.out.move (h3 _ N2.out)); clear h1 h2 h3 h4; have d0 : w4.cell? ⟨wr.heap.size, 0, none⟩ = some (.int .u64 p.f0) := (blk_cell BN4.out 0).trans rfl; have hlk : (Instr.lookup 71 (.map (some (w.heap.size + 1 + 1))) (.int .u64 p.f0) true).run Try.prog w4 = .ok (.tuple #[.int .i64 ((get m p.f0).getD 0), .bool false]) w4 := (look_ok keyU Try.underlying71 0 (zI w4) M4.out p.f0).trans (by rw [TD.out]; rfl); obtain ⟨w5, hup0, hM5, o5, hw5⟩ := upd keyU Try.underlying71 M4.out p.f0 i; have hup : (Instr.mapUpdate 71 (.map (some (w.heap.size + 1 + 1))) (.int .u64 p.f0) (.int .i64 i)).run Try.prog w4 = .ok () w5 := hup0; clear hup0; have M5 := Aside0.mk hM5; have X05 := Aside0.mk (show w5.heap[w.heap.size]? = some (.cells #[.int .i64 0, .int .u64 0, .int .u64 0, .int .u64 0, .int .u64 0, .int .u64 0, .int .u64 0, .int .u64 0, .int .u64 0, .int .u64 0, .int .u64 0, .int .u64 0, .int .u64 0, .int .u64 0, .int .u64 0, .int .u64 0, .int .u64 0, .int .u64 0, .int .u64 0, .int .u64 0, .int .u64 0, .int .u64 0, .int .u64 0, .int .u64 0, .int .u64 0, .int .u64 0, .int .u64 0, .int .u64 0, .int .u64 0, .int .u64 0, .int .u64 0, .int .u64 0, .int .u64 0] 29 (0, 0)) from (by rw [hw5]; exact (setB_far _ _ _ _ (by omega)).trans X04.out)); have X15 := Aside0.mk (show w5.heap[w.heap.size + 1]? = some (.cells (SV s) 29 (0, 0)) from (by rw [hw5]; exact (setB_far _ _ _ _ (by omega)).trans X14.out)); have BN5 := Aside0.mk (show w5.heap[wr.heap.size]? = some (.cells #[.int .u64 p.f0, .int .u64 p.f1] 26 (0, 0)) from (by rw [hw5]; exact (setB_far _ _ _ _ N2.out.symm).trans BN4.out)); have B5 := Aside0.mk (show Below w.heap.size w w5 from (by rw [hw5]; exact setB_below B4.out (by omega) _)); clear hM5 hw5)
            | (refine wpList_load_row_g (by rfl) 29 (.tmp 4) rfl (w.heap.size + 1) rfl 29 (SV s) (0, 0) _ X15.out Try.underlying29 rfl (info29 _) ?_)
            | (refine wpList_load_row_g (by rfl) 26 (.tmp 8) rfl wr.heap.size rfl 26 #[.int .u64 p.f0, .int .u64 p.f1] (0, 0) _ BN5.out Try.underlying26 rfl (by kernel_rfl) ?_))
          refine (with_T s p _ HS.out).mono ?_
          rintro e_ w6 ⟨rfl, hb⟩
          have X06 := Aside0.mk (blk_below X05.out hb)
          have X16 := Aside0.mk (blk_below X15.out hb)
          have M6 := Aside0.mk (M5.out.below hb)
          have B6 := Aside0.mk (below_step B5.out hb)
          clear hb
          go_wp2_with (refine store_whole (w := w) (B := w.heap.size) rfl rfl 29 (.tmp 4) (.tmp 38) rfl (g := w.heap.size + 1) (cs := SV (withV s p).1) rfl _ rfl rfl (stot _) (SV_one _) X16.out (by rw [SV_size, SV_size]) (by omega) B6.out ?_; intro w7 h1 h2 h3 h4; have X17 := Aside0.mk h1; have B7 := Aside0.mk h2; have X07 := Aside0.mk ((h3 _ (by omega)).trans X06.out); have M7 := Aside0.mk (M6.out.move (h3 _ (by omega))); clear h1 h2 h3 h4)
          go_roundg ko
          case rel => exact ⟨i + 1, _, _, _, rfl, by first | rfl | rw [wi], ⟨by have := HK.out; have := q1.out; omega⟩, ⟨withV_le s p HS.out⟩, ⟨EQ2.out⟩, X07, X17, M7, B7⟩
          case measure => exact Nat.lt_succ_self _
        · have te : (e == 0) = false := beq_eq_false_iff_ne.2 he
          have tf := eq_false he
          have EQ2 := Aside0.mk ((if_neg he).symm.trans EQ.out)
          clear he
          go_wp2_with (first
            | (refine store_whole (w := w) (B := w.heap.size) rfl rfl 26 (.tmp 8) (.tmp 18) rfl (g := wr.heap.size) (cs := #[.int .u64 p.f0, .int .u64 p.f1]) rfl _ rfl rfl (by kernel_rfl) (by simp [Value.oneCell']) BN.out rfl LE.out Ba.out ?_; intro w4 h1 h2 h3 h4; have BN4 := Aside0.mk h1; have B4 := Aside0.mk h2; have X04 := Aside0.mk ((h3 _ N0.out).trans X0a.out); have X14 := Aside0.mk ((h3 _ N1.out).trans X1a.out); have M4 := Aside0.mk (Ma.out.move (h3 _ N2.out)); clear h1 h2 h3 h4; have d0 : w4.cell? ⟨wr.heap.size, 0, none⟩ = some (.int .u64 p.f0) := (blk_cell BN4.out 0).trans rfl; have hlk : (Instr.lookup 71 (.map (some (w.heap.size + 1 + 1))) (.int .u64 p.f0) true).run Try.prog w4 = .ok (.tuple #[.int .i64 ((get m p.f0).getD 0), .bool false]) w4 := (look_ok keyU Try.underlying71 0 (zI w4) M4.out p.f0).trans (by rw [TD.out]; rfl); obtain ⟨w5, hup0, hM5, o5, hw5⟩ := upd keyU Try.underlying71 M4.out p.f0 i; have hup : (Instr.mapUpdate 71 (.map (some (w.heap.size + 1 + 1))) (.int .u64 p.f0) (.int .i64 i)).run Try.prog w4 = .ok () w5 := hup0; clear hup0; have M5 := Aside0.mk hM5; have X05 := Aside0.mk (show w5.heap[w.heap.size]? = some (.cells #[.int .i64 0, .int .u64 0, .int .u64 0, .int .u64 0, .int .u64 0, .int .u64 0, .int .u64 0, .int .u64 0, .int .u64 0, .int .u64 0, .int .u64 0, .int .u64 0, .int .u64 0, .int .u64 0, .int .u64 0, .int .u64 0, .int .u64 0, .int .u64 0, .int .u64 0, .int .u64 0, .int .u64 0, .int .u64 0, .int .u64 0, .int .u64 0, .int .u64 0, .int .u64 0, .int .u64 0, .int .u64 0, .int .u64 0, .int .u64 0, .int .u64 0, .int .u64 0, .int .u64 0] 29 (0, 0)) from (by rw [hw5]; exact (setB_far _ _ _ _ (by omega)).trans X04.out)); have X15 := Aside0.mk (show w5.heap[w.heap.size + 1]? = some (.cells (SV s) 29 (0, 0)) from (by rw [hw5]; exact (setB_far _ _ _ _ (by omega)).trans X14.out)); have BN5 := Aside0.mk (show w5.heap[wr.heap.size]? = some (.cells #[.int .u64 p.f0, .int .u64 p.f1] 26 (0, 0)) from (by rw [hw5]; exact (setB_far _ _ _ _ N2.out.symm).trans BN4.out)); have B5 := Aside0.mk (show Below w.heap.size w w5 from (by rw [hw5]; exact setB_below B4.out (by omega) _)); clear hM5 hw5))
          go_roundg ko
          case rel => exact ⟨i + 1, _, _, _, rfl, by first | rfl | rw [wi], ⟨by have := HK.out; have := q1.out; omega⟩, HS, ⟨EQ2.out⟩, X05, X15, M5, B5⟩
          case measure => exact Nat.lt_succ_self _
    · have t1 : decide (i < (l.length : Int)) = false := decide_eq_false hi
      have ER : (if e = 0 then (s, 0) else ([], e)) = R := by rw [← HE.out, List.drop_eq_nil_of_le (by omega)]; rfl
      clear hi
      by_cases he : e = 0
      · subst he
        rw [if_pos rfl] at ER
        subst ER
        go_wp2_with (first
          | (refine wpList_load_row_g (by rfl) 29 (.tmp 4) rfl (w.heap.size + 1) rfl 29 (SV s) (0, 0) _ X1.out Try.underlying29 rfl (info29 _) ?_)
          | (refine store_whole (w := w) (B := w.heap.size) rfl rfl 29 (.tmp 2) (.tmp 45) rfl (g := w.heap.size) (cs := SV s) rfl _ rfl rfl (stot _) (SV_one _) X0.out (by rw [SV_size]; rfl) (Nat.le_refl _) HB.out ?_; intro w5 h1 h2 h3 h4; have X05 := Aside0.mk h1; have B5 := Aside0.mk h2; clear h1 h2 h3 h4))
        refine bodyPost_ret (results_cell2 rfl _ _ w.heap.size 29 (SV s) (0, 0) _ rfl X05.out Try.underlying29 rfl (info29 _) rfl) rfl ?_
        first | exact ⟨rfl, B5.out⟩ | exact ⟨rfl, HS.out, B5.out⟩
      · rw [if_neg he] at ER
        subst ER
        have te : (e == 0) = false := beq_eq_false_iff_ne.2 he
        have tf := eq_false he
        clear he
        go_wp2_with (refine store_whole (w := w) (B := w.heap.size) rfl rfl 29 (.tmp 2) (.tmp 43) rfl (g := w.heap.size) (cs := SV []) rfl _ rfl rfl (stot _) (SV_one _) X0.out (by rw [SV_size]; rfl) (Nat.le_refl _) HB.out ?_; intro w5 h1 h2 h3 h4; have X05 := Aside0.mk h1; have B5 := Aside0.mk h2; clear h1 h2 h3 h4)
        refine bodyPost_ret (results_cell2 rfl _ _ w.heap.size 29 (SV []) (0, 0) _ rfl X05.out Try.underlying29 rfl (info29 _) rfl) rfl ?_
        first | exact ⟨rfl, B5.out⟩ | exact ⟨rfl, by simp, B5.out⟩
end Go.Proofs.Ytcphmelmieedfab.PSpecExact

