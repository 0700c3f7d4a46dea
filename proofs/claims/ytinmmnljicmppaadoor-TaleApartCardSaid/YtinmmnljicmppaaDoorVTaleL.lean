import Derived.Test.YtinmmnljicmppaaDoorVTaleJ
import Derived.Test.YtinmmnljicmppaaDoorVTaleK1
import Derived.Test.YtinmmnljicmppaaDoorVTalePe
/-
script.Check.
-/
namespace Go.Proofs.YtinmmnljicmppaaDoor.PTaleApart
open Go Go.RowKit Go.Proofs.YtinmmnljicmppaaDoorW.PrintWords Go.Proofs.YtinmmnljicmppaaDoorW.PrintLast Go.Proofs.YtinmmnljicmppaaDoorW.PrintMore Go.Proofs.YtinmmnljicmppaaDoor.Str Go.Proofs.YtinmmnljicmppaaDoor.U
set_option linter.unusedVariables false
def opV1 (a d : Int) (o : S33) : Int := OpV a d o.f0 o.f1 o.f2 o.f3
def opsGo (a d t : Int) : List S33 → Int → Int × Int × Int
 | [], _ => (0, 0, 0)
 | o :: os, i => if opV1 a d o = 0 then opsGo a d t os (i + 1) else (opV1 a d o, t, i)
def opsV (a d t : Int) (l : List S33) : Int × Int × Int := if 64 < l.length then (9, t, 0) else opsGo a d t l 0
def opssV (a d : Int) : List (List S33) → Int → Int × Int × Int
 | [], _ => (0, 0, 0)
 | l :: ls, i => if opsV a d i l = (0, 0, 0) then opssV a d ls (i + 1) else opsV a d i l
def scV (a b c d e : Int) (l5 : List (List S33)) (l6 : List Int) : Int × Int × Int :=
 if CheckV a b c d e ≠ 0 then (CheckV a b c d e, 0, 0)
 else if l5.length < 1 ∨ 64 < l5.length then (3, 0, 0)
 else if 262144 < l6.length then (9, 0, 0)
 else if opssV a d l5 0 ≠ (0, 0, 0) then opssV a d l5 0
 else if 0 ≤ idxN l5.length l6 0 then (3, 0, idxN l5.length l6 0) else (0, 0, 0)
theorem drop_rdO (xs : List S33) (i : Int) (h0 : 0 ≤ i) (h1 : i < xs.length) : xs.drop i.toNat = rd_T33 xs i :: xs.drop (i + 1).toNat := by
 have h : i.toNat < xs.length := by omega
 rw [List.drop_eq_getElem_cons h]
 congr 1
 ·simp [rd_T33, h]
 ·congr 1; omega
theorem ops_l (a b c d e t : Int) (hc : CheckV a b c d e = 0) (l : List S33) (hl : l.length ≤ 64) : ∀ (q k : Nat) (i : Int), 0 ≤ i → i + q = l.length → q + 3 < k → script_ops.l0 k t l l.length i a b c d e = some (opsGo a d t (l.drop i.toNat) i) := by
 intro q
 induction q with
 | zero =>
  intro k i h0 hi hk
  obtain ⟨k, rfl⟩ : ∃ m, k = m + 1 := ⟨k - 1, by omega⟩
  simp only [script_ops.l0]
  rw [if_neg (by omega), List.drop_of_length_le (by omega)]
  rfl
 | succ q ih =>
  intro k i h0 hi hk
  obtain ⟨k, rfl⟩ : ∃ m, k = m + 1 := ⟨k - 1, by omega⟩
  have hw : wrap64 (i + 1) = i + 1 := by unfold wrap64; omega
  simp only [script_ops.l0]
  rw [if_pos (by omega), if_pos h0, if_pos (by omega), isOp_f (by omega), hc, if_pos rfl, bsome, drop_rdO l i h0 (by omega), hw, ih k (i + 1) (by omega) (by omega) (by omega)]
  by_cases h : opV1 a d (rd_T33 l i) = 0
  ·have h' := h
   unfold opV1 at h'
   rw [if_pos h']
   simp only [opsGo]
   rw [if_pos h]
  ·have h' := h
   unfold opV1 at h'
   rw [if_neg h']
   simp only [opsGo]
   rw [if_neg h]
   rfl
theorem ops_f (a b c d e t : Int) (hc : CheckV a b c d e = 0) (l : List S33) : script_ops.f 100 a b c d e t l = some (opsV a d t l) := by
 unfold script_ops.f opsV
 by_cases hl : 64 < l.length
 ·rw [if_pos (by omega), if_pos hl]
 ·rw [if_neg (by omega), if_neg hl, ops_l a b c d e t hc l (by omega) l.length 100 0 (by omega) (by omega) (by omega)]
  rfl
end Go.Proofs.YtinmmnljicmppaaDoor.PTaleApart
namespace Go.Proofs.YtinmmnljicmppaaDoor.PTaleApart
open Go Go.RowKit Go.Proofs.YtinmmnljicmppaaDoorW.PrintWords Go.Proofs.YtinmmnljicmppaaDoorW.PrintLast Go.Proofs.YtinmmnljicmppaaDoorW.PrintMore Go.Proofs.YtinmmnljicmppaaDoor.Str
attribute [local go_sem] max2_int min2_int max_two min_two max_three min_three max_four min_four
set_option linter.unusedVariables false
set_option linter.unusedSimpArgs false
def rd_LL (xs : List (List S33)) (i : Int) : List S33 := xs.getD i.toNat ([] : List S33)
theorem at_LL {w : World} {A : Option Addr} {n : Nat} {xs : List (List S33)} (h : Kd.C (Kd.slice 33 k33) w A n xs) (i : Int) (h0 : 0 ≤ i) (h1 : i < n) : ∃ ad A0 c0, A = some ad ∧ w.cell? (ad.add i.toNat) = some (.slice A0 (rd_LL xs i).length c0) ∧ (rd_LL xs i).length ≤ c0 ∧ k33.C w A0 (rd_LL xs i).length (rd_LL xs i) := by
 obtain ⟨ad, c, e, _, hK, hc0⟩ := Kd.C_get h ([] : List S33) i h0 h1
 have hc : ∀ j u, c[j]? = some u → w.cell? (ad.add (i.toNat * 1 + j)) = some u := hc0
 obtain ⟨A0, c0, rfl, l0, g0⟩ := hK
 exact ⟨ad, A0, c0, e, by have hq := hc 0 _ rfl; rwa [Nat.mul_one, Nat.add_zero] at hq, l0, g0⟩
theorem drop_rdL (xs : List (List S33)) (i : Int) (h0 : 0 ≤ i) (h1 : i < xs.length) : xs.drop i.toNat = rd_LL xs i :: xs.drop (i + 1).toNat := by
 have h : i.toNat < xs.length := by omega
 rw [List.drop_eq_getElem_cons h]
 congr 1
 ·simp [rd_LL, h]
 ·congr 1; omega
theorem put3 {w W : World} {R t : Nat} {x y z : Value} (a b c : Value) (HR : W.heap[R]? = some (.cells #[x, y, z] t (0, 0))) (HB : Below w.heap.size w W) (hR : w.heap.size ≤ R) :
  (((W.setCell ⟨R, 0, none⟩ a).setCell ⟨R, 1, none⟩ b).setCell ⟨R, 2, none⟩ c).heap[R]? = some (.cells #[a, b, c] t (0, 0)) ∧ Below w.heap.size w (((W.setCell ⟨R, 0, none⟩ a).setCell ⟨R, 1, none⟩ b).setCell ⟨R, 2, none⟩ c) :=
 ⟨blk_put (cs := #[a, b, z]) (blk_put (cs := #[a, y, z]) (blk_put (cs := #[x, y, z]) HR 0 _ rfl) 1 _ rfl) 2 _ rfl, below_set (below_set (below_set HB hR) hR) hR⟩
set_option maxHeartbeats 8000000 in
set_option maxRecDepth 100000 in
theorem check_T (a b c d e : Int) (A5 : Option Addr) (c5 : Nat) (l5 : List (List S33)) (A6 : Option Addr) (c6 : Nat) (l6 : List Int) (w : World) (ha5 : Kd.C (Kd.slice 33 k33) w A5 l5.length l5) (ha6 : Kd.C (Kd.int .i64) w A6 l6.length l6) :
  Calls Tryd.prog 31 #[.agg #[.int .i64 a, .int .i64 b, .int .i64 c, .int .i64 d, .int .i64 e, .slice A5 l5.length c5, .slice A6 l6.length c6]] w
   fun e_ w' => e_ = .returned (.agg #[.int .i64 (scV a b c d e l5 l6).1, .int .i64 (scV a b c d e l5 l6).2.1, .int .i64 (scV a b c d e l5 l6).2.2]) ∧ Below w.heap.size w w' := by
 have hu49 := Tryd.underlying47
 have hu31 := Tryd.underlying31
 have hu57 := Tryd.underlying70
 have HA5 := Aside0.mk ha5
 have HA6 := Aside0.mk ha6
 clear ha5 ha6
 obtain ⟨r, hr⟩ : ∃ r, r = scV a b c d e l5 l6 := ⟨_, rfl⟩
 rw [← hr]
 have HV := Aside0.mk hr
 clear hr
 go_enter Tryd.func31, Tryd.ntmps31
 go_wp2_with fail
 refine (conf_Check.calls 20 a b c d e (CheckV a b c d e) _ (check_f (by decide) a b c d e)).mono ?_
 rintro e_ w5 ⟨rfl, hb⟩
 have HS := Aside0.mk (blk_below (blk_alloc (blk_new w (.cells #[.int .i64 a, .int .i64 b, .int .i64 c, .int .i64 d, .int .i64 e, .slice A5 l5.length c5, .slice A6 l6.length c6] 47)) _) hb)
 have HR := Aside0.mk (blk_below (g := w.heap.size + 1) (o := .cells #[.int .i64 0, .int .i64 0, .int .i64 0] 70) (by have := blk_new (w.alloc (.cells #[.int .i64 a, .int .i64 b, .int .i64 c, .int .i64 d, .int .i64 e, .slice A5 l5.length c5, .slice A6 l6.length c6] 47)) (.cells #[.int .i64 0, .int .i64 0, .int .i64 0] 70); simpa using this) hb)
 have HB := Aside0.mk (below_step (below_alloc (below_alloc (Below.refl w.heap.size w) _) _) hb)
 clear hb
 have f0 := blk_frozen HR.out 0
 have f1 := blk_frozen HR.out 1
 have f2 := blk_frozen HR.out 2
 have r0 : w5.cell? ⟨w.heap.size + 1, 0, none⟩ = some (.int .i64 0) := (blk_cell HR.out 0).trans rfl
 have r1 : w5.cell? ⟨w.heap.size + 1, 1, none⟩ = some (.int .i64 0) := (blk_cell HR.out 1).trans rfl
 have r2 : w5.cell? ⟨w.heap.size + 1, 2, none⟩ = some (.int .i64 0) := (blk_cell HR.out 2).trans rfl
 by_cases hc : CheckV a b c d e = 0
 ·rw [hc]
  have s0 : w5.cell? ⟨w.heap.size, 0, none⟩ = some (.int .i64 a) := (blk_cell HS.out 0).trans rfl
  have s1 : w5.cell? ⟨w.heap.size, 1, none⟩ = some (.int .i64 b) := (blk_cell HS.out 1).trans rfl
  have s2 : w5.cell? ⟨w.heap.size, 2, none⟩ = some (.int .i64 c) := (blk_cell HS.out 2).trans rfl
  have s3 : w5.cell? ⟨w.heap.size, 3, none⟩ = some (.int .i64 d) := (blk_cell HS.out 3).trans rfl
  have s4 : w5.cell? ⟨w.heap.size, 4, none⟩ = some (.int .i64 e) := (blk_cell HS.out 4).trans rfl
  have s5 : w5.cell? ⟨w.heap.size, 5, none⟩ = some (.slice A5 l5.length c5) := (blk_cell HS.out 5).trans rfl
  have s6 : w5.cell? ⟨w.heap.size, 6, none⟩ = some (.slice A6 l6.length c6) := (blk_cell HS.out 6).trans rfl
  have HC := Aside0.mk hc
  clear hc
  by_cases h1 : l5.length < 1
  ·have t1 : decide ((l5.length : Int) < 1) = true := decide_eq_true (by omega)
   have HV2 := Aside0.mk (show r = (3, 0, 0) by rw [HV.out]; unfold scV; rw [if_neg (fun h => h HC.out), if_pos (.inl h1)])
   clear h1 HV
   go_wp2_with fail
   have P := put3 (.int .i64 3) (.int .i64 0) (.int .i64 0) HR.out HB.out (Nat.le_succ _)
   exact bodyPost_ret (results_cell_row rfl _ _ (w.heap.size + 1) 70 #[.int .i64 3, .int .i64 0, .int .i64 0] (0, 0) _ rfl P.1 Tryd.underlying70 rfl (by kernel_rfl)) rfl ⟨by rw [HV2.out], P.2⟩
  ·have t1 : decide ((l5.length : Int) < 1) = false := decide_eq_false (by omega)
   by_cases h2 : 64 < l5.length
   ·have t2 : decide ((l5.length : Int) > 64) = true := decide_eq_true (by omega)
    have t3 : decide ((64 : Int) < l5.length) = true := decide_eq_true (by omega)
    have HV2 := Aside0.mk (show r = (3, 0, 0) by rw [HV.out]; unfold scV; rw [if_neg (fun h => h HC.out), if_pos (.inr h2)])
    clear h1 h2 HV
    go_wp2_with fail
    have P := put3 (.int .i64 3) (.int .i64 0) (.int .i64 0) HR.out HB.out (Nat.le_succ _)
    exact bodyPost_ret (results_cell_row rfl _ _ (w.heap.size + 1) 70 #[.int .i64 3, .int .i64 0, .int .i64 0] (0, 0) _ rfl P.1 Tryd.underlying70 rfl (by kernel_rfl)) rfl ⟨by rw [HV2.out], P.2⟩
   ·have t2 : decide ((l5.length : Int) > 64) = false := decide_eq_false (by omega)
    have t3 : decide ((64 : Int) < l5.length) = false := decide_eq_false (by omega)
    by_cases h3 : 262144 < l6.length
    ·have t4 : decide ((l6.length : Int) > 262144) = true := decide_eq_true (by omega)
     have t5 : decide ((262144 : Int) < l6.length) = true := decide_eq_true (by omega)
     have HV2 := Aside0.mk (show r = (9, 0, 0) by rw [HV.out]; unfold scV; rw [if_neg (fun h => h HC.out), if_neg (by omega), if_pos h3])
     clear h1 h2 h3 HV
     go_wp2_with fail
     have P := put3 (.int .i64 9) (.int .i64 0) (.int .i64 0) HR.out HB.out (Nat.le_succ _)
     exact bodyPost_ret (results_cell_row rfl _ _ (w.heap.size + 1) 70 #[.int .i64 9, .int .i64 0, .int .i64 0] (0, 0) _ rfl P.1 Tryd.underlying70 rfl (by kernel_rfl)) rfl ⟨by rw [HV2.out], P.2⟩
    ·have t4 : decide ((l6.length : Int) > 262144) = false := decide_eq_false (by omega)
     have t5 : decide ((262144 : Int) < l6.length) = false := decide_eq_false (by omega)
     have HV2 := Aside0.mk (show r = (if opssV a d (l5.drop (0 : Int).toNat) 0 ≠ (0, 0, 0) then opssV a d (l5.drop (0 : Int).toNat) 0 else if 0 ≤ idxN l5.length l6 0 then (3, 0, idxN l5.length l6 0) else (0, 0, 0)) by rw [HV.out]; unfold scV; rw [if_neg (fun h => h HC.out), if_neg (by omega), if_neg h3]; rfl)
     have HL := Aside0.mk (show l5.length ≤ 64 by omega)
     clear h1 h2 h3 HV
     go_wp2_with fail
     go_loopg [37] l5.length (fun kq v37 w' => ∃ (i : Int), v37 = .int .i64 i ∧ Aside0 (0 ≤ i ∧ i + kq = l5.length) ∧ Aside0 (r = (if opssV a d (l5.drop i.toNat) i ≠ (0, 0, 0) then opssV a d (l5.drop i.toNat) i else if 0 ≤ idxN l5.length l6 0 then (3, 0, idxN l5.length l6 0) else (0, 0, 0))) ∧ Aside0 (w'.heap[w.heap.size]? = some (.cells #[.int .i64 a, .int .i64 b, .int .i64 c, .int .i64 d, .int .i64 e, .slice A5 l5.length c5, .slice A6 l6.length c6] 47 (0, 0))) ∧ Aside0 (w'.heap[w.heap.size + 1]? = some (.cells #[.int .i64 0, .int .i64 0, .int .i64 0] 70 (0, 0))) ∧ Aside0 (Below w.heap.size w w'))
     case atStart => exact ⟨0, rfl, ⟨by omega⟩, HV2, HS, HR, HB⟩
     case round =>
      clear t1 t2 t3 t4 t5 HV2 HS HR HB s0 s1 s2 s3 s4 s5 s6 f0 f1 f2 r0 r1 r2
      obtain ⟨i, rfl, HK, HV2, HS, HR, HB⟩ := hrel
      have s0 : wr.cell? ⟨w.heap.size, 0, none⟩ = some (.int .i64 a) := (blk_cell HS.out 0).trans rfl
      have s1 : wr.cell? ⟨w.heap.size, 1, none⟩ = some (.int .i64 b) := (blk_cell HS.out 1).trans rfl
      have s2 : wr.cell? ⟨w.heap.size, 2, none⟩ = some (.int .i64 c) := (blk_cell HS.out 2).trans rfl
      have s3 : wr.cell? ⟨w.heap.size, 3, none⟩ = some (.int .i64 d) := (blk_cell HS.out 3).trans rfl
      have s4 : wr.cell? ⟨w.heap.size, 4, none⟩ = some (.int .i64 e) := (blk_cell HS.out 4).trans rfl
      have s5 : wr.cell? ⟨w.heap.size, 5, none⟩ = some (.slice A5 l5.length c5) := (blk_cell HS.out 5).trans rfl
      have s6 : wr.cell? ⟨w.heap.size, 6, none⟩ = some (.slice A6 l6.length c6) := (blk_cell HS.out 6).trans rfl
      have f0 := blk_frozen HR.out 0
      have f1 := blk_frozen HR.out 1
      have f2 := blk_frozen HR.out 2
      have r0 : wr.cell? ⟨w.heap.size + 1, 0, none⟩ = some (.int .i64 0) := (blk_cell HR.out 0).trans rfl
      have r1 : wr.cell? ⟨w.heap.size + 1, 1, none⟩ = some (.int .i64 0) := (blk_cell HR.out 1).trans rfl
      have r2 : wr.cell? ⟨w.heap.size + 1, 2, none⟩ = some (.int .i64 0) := (blk_cell HR.out 2).trans rfl
      by_cases hi : i < (l5.length : Int)
      ·have t1 : decide (i < (l5.length : Int)) = true := decide_eq_true hi
       have p0 : (0 : Int) ≤ i := HK.out.1
       have q0 : i < (l5.length : Int) := hi
       clear hi
       obtain ⟨ko, rfl⟩ : ∃ m, gk = m + 1 := ⟨gk - 1, by have := HK.out; omega⟩
       obtain ⟨ad, B0, d0, e0, hx0, hd0, hC0⟩ := at_LL HA5.out i p0 q0
       cases e0
       obtain ⟨q1, q2, q3, hq⟩ : ∃ q1 q2 q3, opsV a d i (rd_LL l5 i) = (q1, q2, q3) := ⟨_, _, _, rfl⟩
       have HQ := Aside0.mk (show script_ops.f 100 a b c d e i (rd_LL l5 i) = some (q1, q2, q3) by rw [ops_f a b c d e i HC.out, hq])
       have hd := HV2.out
       rw [drop_rdL l5 i p0 q0] at hd
       simp only [opssV, hq] at hd
       have HD := Aside0.mk hd
       have HC0 := Aside0.mk (Kd.C_below hC0 HB.out)
       have HD0 := Aside0.mk hd0
       replace hx0 := (HB.out.cell (World.block_lt_of_cell? w _ hx0)).trans hx0
       clear hd HV2 hC0 hd0 hq
       have p0c := Aside0.mk p0
       have q0c := Aside0.mk q0
       have p0b : decide (0 ≤ i) = true := decide_eq_true p0
       replace p0 := eq_true p0
       replace q0 := eq_true q0
       go_wp2_with fail
       refine (script_ops.calls 100 a b c d e i B0 d0 (rd_LL l5 i) q1 q2 q3 _ HC0.out HD0.out HQ.out).mono ?_
       rintro e_ w6 ⟨rfl, hb⟩
       have HS2 := Aside0.mk (blk_below HS.out hb)
       have HR2 := Aside0.mk (blk_below HR.out hb)
       have HB2 := Aside0.mk (below_step HB.out hb)
       clear HS HR HB hb s0 s1 s2 s3 s4 s5 s6 f0 f1 f2 r0 r1 r2
       have b3 : i < 9223372036854775807 := by have := q0c.out; have := HL.out; omega
       have b4 : 0 ≤ i := p0c.out
       by_cases hz : q1 = 0 ∧ q2 = 0 ∧ q3 = 0
       ·obtain ⟨rfl, rfl, rfl⟩ := hz
        have HE := Aside0.mk HD.out
        go_wp2_with fail
        go_roundg ko
        case rel =>
         refine ⟨i + 1, rfl, ⟨by have := HK.out; omega⟩, ⟨?_⟩, ⟨blk_alloc HS2.out _⟩, ⟨blk_alloc HR2.out _⟩, ⟨below_alloc HB2.out _⟩⟩
         have := HD.out
         simpa using this
        case measure => exact Nat.lt_succ_self _
       ·have HE := Aside0.mk (show r = (q1, q2, q3) by have := HD.out; have hz' : ¬ (q1, q2, q3) = ((0 : Int), (0 : Int), (0 : Int)) := (fun h => hz (by simpa using h)); rw [if_neg hz', if_pos hz'] at this; exact this)
        clear HD
        have gA : ∀ o k, (w6.alloc o).frozen? ⟨w.heap.size + 1, k, none⟩ = false := fun o k => blk_frozen (blk_alloc HR2.out o) k
        have g0 : ∀ o, (w6.alloc o).cell? ⟨w.heap.size + 1, 0, none⟩ = some (.int .i64 0) := fun o => (blk_cell (blk_alloc HR2.out o) 0).trans rfl
        have g1 : ∀ o, (w6.alloc o).cell? ⟨w.heap.size + 1, 1, none⟩ = some (.int .i64 0) := fun o => (blk_cell (blk_alloc HR2.out o) 1).trans rfl
        have g2 : ∀ o, (w6.alloc o).cell? ⟨w.heap.size + 1, 2, none⟩ = some (.int .i64 0) := fun o => (blk_cell (blk_alloc HR2.out o) 2).trans rfl
        obtain ⟨z1⟩ | ⟨rfl, z2⟩ | ⟨rfl, rfl, z3⟩ : (¬ q1 = 0) ∨ (q1 = 0 ∧ ¬ q2 = 0) ∨ (q1 = 0 ∧ q2 = 0 ∧ ¬ q3 = 0) := by
         by_cases e1 : q1 = 0
         ·by_cases e2 : q2 = 0
          ·exact .inr (.inr ⟨e1, e2, fun e3 => hz ⟨e1, e2, e3⟩⟩)
          ·exact .inr (.inl ⟨e1, e2⟩)
         ·exact .inl e1
        all_goals
         clear hz
         go_wp2_with fail
         exact bodyPost_ret (results_cell_row rfl _ _ (w.heap.size + 1) 70 _ (0, 0) _ rfl (put3 _ _ _ (blk_alloc HR2.out _) (below_alloc HB2.out _) (Nat.le_succ _)).1 Tryd.underlying70 rfl (by kernel_rfl)) rfl ⟨by rw [HE.out], (put3 _ _ _ (blk_alloc HR2.out _) (below_alloc HB2.out _) (Nat.le_succ _)).2⟩
      ·have t1 : decide (i < (l5.length : Int)) = false := decide_eq_false hi
       have HE := Aside0.mk (show r = (if 0 ≤ idxN l5.length l6 0 then (3, 0, idxN l5.length l6 0) else (0, 0, 0)) by
        have := HV2.out
        rw [List.drop_of_length_le (by omega)] at this
        simpa [opssV] using this)
       clear hi HV2
       go_wp2_with fail
       refine (indexFunc_T a b c d e A5 l5.length c5 A6 l6.length c6 A6 c6 l6 wr HA5.out.2.1 (Kd.C_below HA6.out HB.out)).mono ?_
       rintro e_ w6 ⟨rfl, hb⟩
       have HR2 := Aside0.mk (blk_below HR.out hb)
       have HB2 := Aside0.mk (below_step HB.out hb)
       have F0 := blk_frozen HR2.out 0
       have F1 := blk_frozen HR2.out 1
       have F2 := blk_frozen HR2.out 2
       have R0 : w6.cell? ⟨w.heap.size + 1, 0, none⟩ = some (.int .i64 0) := (blk_cell HR2.out 0).trans rfl
       have R1 : w6.cell? ⟨w.heap.size + 1, 1, none⟩ = some (.int .i64 0) := (blk_cell HR2.out 1).trans rfl
       have R2 : w6.cell? ⟨w.heap.size + 1, 2, none⟩ = some (.int .i64 0) := (blk_cell HR2.out 2).trans rfl
       clear hb HR HB HS s0 s1 s2 s3 s4 s5 s6 f0 f1 f2 r0 r1 r2
       obtain ⟨x, hx⟩ : ∃ x, x = idxN l5.length l6 0 := ⟨_, rfl⟩
       have hE := HE.out
       rw [← hx] at hE ⊢
       have HE2 := Aside0.mk hE
       clear hE hx HE
       by_cases h0 : 0 ≤ x
       ·have u1 : decide (x ≥ 0) = true := decide_eq_true h0
        have u2 : decide (0 ≤ x) = true := decide_eq_true h0
        have HF := Aside0.mk (show r = (3, 0, x) by rw [HE2.out, if_pos h0])
        clear h0 HE2
        go_wp2_with fail
        exact bodyPost_ret (results_cell_row rfl _ _ (w.heap.size + 1) 70 _ (0, 0) _ rfl (put3 _ _ _ HR2.out HB2.out (Nat.le_succ _)).1 Tryd.underlying70 rfl (by kernel_rfl)) rfl ⟨by rw [HF.out], (put3 _ _ _ HR2.out HB2.out (Nat.le_succ _)).2⟩
       ·have u1 : decide (x ≥ 0) = false := decide_eq_false h0
        have u2 : decide (0 ≤ x) = false := decide_eq_false h0
        have HF := Aside0.mk (show r = (0, 0, 0) by rw [HE2.out, if_neg h0])
        clear h0 HE2
        go_wp2_with fail
        exact bodyPost_ret (results_cell_row rfl _ _ (w.heap.size + 1) 70 _ (0, 0) _ rfl (put3 _ _ _ HR2.out HB2.out (Nat.le_succ _)).1 Tryd.underlying70 rfl (by kernel_rfl)) rfl ⟨by rw [HF.out], (put3 _ _ _ HR2.out HB2.out (Nat.le_succ _)).2⟩
 ·have tc : (CheckV a b c d e != 0) = true := bne_iff_ne.mpr hc
  have HV2 := Aside0.mk (show r = (CheckV a b c d e, 0, 0) by rw [HV.out]; unfold scV; rw [if_pos hc])
  clear hc HV
  go_wp2_with fail
  have P := put3 (.int .i64 (CheckV a b c d e)) (.int .i64 0) (.int .i64 0) HR.out HB.out (Nat.le_succ _)
  exact bodyPost_ret (results_cell_row rfl _ _ (w.heap.size + 1) 70 #[.int .i64 (CheckV a b c d e), .int .i64 0, .int .i64 0] (0, 0) _ rfl P.1 Tryd.underlying70 rfl (by kernel_rfl)) rfl ⟨by rw [HV2.out], P.2⟩
end Go.Proofs.YtinmmnljicmppaaDoor.PTaleApart
