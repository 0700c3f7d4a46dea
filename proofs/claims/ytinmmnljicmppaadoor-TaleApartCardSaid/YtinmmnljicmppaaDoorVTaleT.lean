import Derived.Deep.LoopGhost
import Derived.Test.YtinmmnljicmppaaDoorVTaleS2
/-
tale.Text.
-/
namespace Go.Proofs.YtinmmnljicmppaaDoor.PTaleApart
open Go Go.RowKit Go.Proofs.YtinmmnljicmppaaDoorW.PrintWords Go.Proofs.YtinmmnljicmppaaDoorW.PrintLast Go.Proofs.YtinmmnljicmppaaDoorW.PrintMore Go.Proofs.YtinmmnljicmppaaDoor.Str
attribute [local go_sem] max2_int min2_int max_two min_two max_three min_three max_four min_four
set_option linter.unusedVariables false
set_option linter.unusedSimpArgs false
theorem below_g {W W1 : World} (h : W.grownBy W1 none) : Below W.heap.size W W1 := ⟨h.os, h.tape, h.output, h.size, fun k hk => h.block k hk (by simp)⟩
set_option maxHeartbeats 64000000 in
set_option maxRecDepth 100000 in
theorem text_T (a b c d e : Int) (A5 : Option Addr) (c5 : Nat) (l5 : List (List S33)) (A6 : Option Addr) (c6 : Nat) (l6 : List Int) (w : World) (ht : WT w) (ha5 : Kd.C (Kd.slice 33 k33) w A5 l5.length l5) (ha6 : Kd.C (Kd.int .i64) w A6 l6.length l6) (hc6 : l6.length ≤ c6) (hty : ∀ l ∈ l5, ∀ o ∈ l, U64 o.f1 ∧ U64 o.f2) :
  Calls Tryd.prog 15 #[.agg #[.int .i64 a, .int .i64 b, .int .i64 c, .int .i64 d, .int .i64 e, .slice A5 l5.length c5, .slice A6 l6.length c6]] w fun e_ w' => e_ = .returned (.tuple #[.string (textV a b c d e l5 l6).1, .int .i64 (textV a b c d e l5 l6).2]) ∧ Below w.heap.size w w' := by
 have hu1 := Tryd.underlying47
 have hu2 := Tryd.underlying31
 have hu3 := Tryd.underlying70
 have hu4 := Tryd.underlying33
 have hu5 := Tryd.underlying55
 have HT := Aside0.mk ht
 have HA5 := Aside0.mk ha5
 have HA6 := Aside0.mk ha6
 have HC6 := Aside0.mk hc6
 have HTY := Aside0.mk hty
 obtain ⟨RV, hRV⟩ : ∃ RV, RV = textV a b c d e l5 l6 := ⟨_, rfl⟩
 rw [← hRV]
 have hch := fun (W : World) (hb : Below w.heap.size w W) => check_T a b c d e A5 c5 l5 A6 c6 l6 W (Kd.C_below ha5 hb) (Kd.C_below ha6 hb)
 obtain ⟨r1, r2, r3, hr⟩ : ∃ r1 r2 r3, scV a b c d e l5 l6 = (r1, r2, r3) := ⟨_, _, _, rfl⟩
 rw [hr] at hch
 simp only at hch
 have HSC := Aside0.mk hr
 clear ht ha5 ha6 hc6 hty
 go_enter Tryd.func15, Tryd.ntmps15
 go_wp2_with fail
 refine (hch _ (below_alloc (Below.refl _ _) _)).mono ?_
 rintro e_ w1 ⟨rfl, hb⟩
 have HS1 := Aside0.mk (blk_below (blk_new w (.cells #[.int .i64 a, .int .i64 b, .int .i64 c, .int .i64 d, .int .i64 e, .slice A5 l5.length c5, .slice A6 l6.length c6] 47)) hb)
 have HB1 := Aside0.mk (below_step (below_alloc (Below.refl w.heap.size w) (.cells #[.int .i64 a, .int .i64 b, .int .i64 c, .int .i64 d, .int .i64 e, .slice A5 l5.length c5, .slice A6 l6.length c6] 47)) hb)
 clear hch hb
 have g0 : ∀ o, (w1.alloc o).cell? ⟨w1.heap.size, 0, none⟩ = (w1.alloc o).cell? ⟨w1.heap.size, 0, none⟩ := fun _ => rfl
 by_cases hq : ¬ (r1 = 0 ∧ r2 = 0 ∧ r3 = 0)
 ·have HV := Aside0.mk (show RV = (⟨#[]⟩, r1) by
   rw [hRV]
   unfold textV
   rw [HSC.out, if_neg (by simpa using hq)])
  clear hRV
  obtain ⟨z1⟩ | ⟨rfl, z2⟩ | ⟨rfl, rfl, z3⟩ : (¬ r1 = 0) ∨ (r1 = 0 ∧ ¬ r2 = 0) ∨ (r1 = 0 ∧ r2 = 0 ∧ ¬ r3 = 0) := by
   by_cases e1 : r1 = 0
   ·by_cases e2 : r2 = 0
    ·exact .inr (.inr ⟨e1, e2, fun e3 => hq ⟨e1, e2, e3⟩⟩)
    ·exact .inr (.inl ⟨e1, e2⟩)
   ·exact .inl e1
  all_goals
   clear hq g0
   go_wp2_with fail
  ·skip
   refine start_ (n := 4) (S := fun w' => w'.cell? ⟨w1.heap.size, 0, none⟩ = some (.int .i64 r1)) (ds := []) #[false, false, false, false] (by kernel_rfl) rfl rfl ((blk_cell (blk_drew (blk_new w1 _)) 0).trans rfl) (fun hHeld => ?_)
   refine pure_ (i := 0) (N := some 22) (v := ?_) (a' := ?_) #[true, false, false, false] rfl rfl (by kernel_rfl) (fun _ _ _ h => h) (Or.inl ⟨by rfl, ?_⟩) ?_ ?_
   rotate_left
   ·intro w'
    go_simp
    with_reducible rfl
   rotate_left
   ·simp only [Act.put, List.setIfInBounds_toArray, List.set_cons_zero, List.set_cons_succ, i64_w, i32_w]
    rfl
   refine pure_ (i := 2) (N := some 2) (v := ?_) (a' := ?_) #[true, false, true, false] rfl rfl (by kernel_rfl) (fun _ _ _ h => h) (Or.inl ⟨by rfl, ?_⟩) ?_ ?_
   rotate_left
   ·intro w'
    go_simp
    with_reducible rfl
   rotate_left
   ·simp only [Act.put, List.setIfInBounds_toArray, List.set_cons_zero, List.set_cons_succ, i64_w, i32_w]
    rfl
   refine take_ (i := 1) (N := some 23) (v := ?_) (a' := ?_) #[true, true, true, false] rfl rfl (by kernel_rfl) (fun _ _ _ h => h) (Or.inl ⟨by rfl, ?_⟩) hHeld ?_ ?_
   rotate_left
   ·intro w' s0
    go_simp
    with_reducible rfl
   rotate_left
   ·simp only [Act.put, List.setIfInBounds_toArray, List.set_cons_zero, List.set_cons_succ, i64_w, i32_w]
    rfl
   refine pure_ (i := 3) (N := some 3) (v := ?_) (a' := ?_) #[true, true, true, true] rfl rfl (by kernel_rfl) (fun _ _ _ h => h) (Or.inl ⟨by rfl, ?_⟩) ?_ ?_
   rotate_left
   ·intro w'
    go_simp
    with_reducible rfl
   rotate_left
   ·simp only [Act.put, List.setIfInBounds_toArray, List.set_cons_zero, List.set_cons_succ, i64_w, i32_w]
    rfl
   refine done_ (by kernel_rfl) ?_
   go_wp2_with fail
   go_ret2
   exact ⟨by rw [HV.out]; rfl, below_drew (below_alloc HB1.out _)⟩
  ·skip
   refine start_ (n := 4) (S := fun w' => w'.cell? ⟨w1.heap.size, 0, none⟩ = some (.int .i64 0)) (ds := []) #[false, false, false, false] (by kernel_rfl) rfl rfl ((blk_cell (blk_drew (blk_new w1 _)) 0).trans rfl) (fun hHeld => ?_)
   refine pure_ (i := 0) (N := some 22) (v := ?_) (a' := ?_) #[true, false, false, false] rfl rfl (by kernel_rfl) (fun _ _ _ h => h) (Or.inl ⟨by rfl, ?_⟩) ?_ ?_
   rotate_left
   ·intro w'
    go_simp
    with_reducible rfl
   rotate_left
   ·simp only [Act.put, List.setIfInBounds_toArray, List.set_cons_zero, List.set_cons_succ, i64_w, i32_w]
    rfl
   refine pure_ (i := 2) (N := some 2) (v := ?_) (a' := ?_) #[true, false, true, false] rfl rfl (by kernel_rfl) (fun _ _ _ h => h) (Or.inl ⟨by rfl, ?_⟩) ?_ ?_
   rotate_left
   ·intro w'
    go_simp
    with_reducible rfl
   rotate_left
   ·simp only [Act.put, List.setIfInBounds_toArray, List.set_cons_zero, List.set_cons_succ, i64_w, i32_w]
    rfl
   refine take_ (i := 1) (N := some 23) (v := ?_) (a' := ?_) #[true, true, true, false] rfl rfl (by kernel_rfl) (fun _ _ _ h => h) (Or.inl ⟨by rfl, ?_⟩) hHeld ?_ ?_
   rotate_left
   ·intro w' s0
    go_simp
    with_reducible rfl
   rotate_left
   ·simp only [Act.put, List.setIfInBounds_toArray, List.set_cons_zero, List.set_cons_succ, i64_w, i32_w]
    rfl
   refine pure_ (i := 3) (N := some 3) (v := ?_) (a' := ?_) #[true, true, true, true] rfl rfl (by kernel_rfl) (fun _ _ _ h => h) (Or.inl ⟨by rfl, ?_⟩) ?_ ?_
   rotate_left
   ·intro w'
    go_simp
    with_reducible rfl
   rotate_left
   ·simp only [Act.put, List.setIfInBounds_toArray, List.set_cons_zero, List.set_cons_succ, i64_w, i32_w]
    rfl
   refine done_ (by kernel_rfl) ?_
   go_wp2_with fail
   go_ret2
   exact ⟨by rw [HV.out]; rfl, below_drew (below_alloc HB1.out _)⟩
  ·skip
   refine start_ (n := 4) (S := fun w' => w'.cell? ⟨w1.heap.size, 0, none⟩ = some (.int .i64 0)) (ds := []) #[false, false, false, false] (by kernel_rfl) rfl rfl ((blk_cell (blk_drew (blk_new w1 _)) 0).trans rfl) (fun hHeld => ?_)
   refine pure_ (i := 0) (N := some 22) (v := ?_) (a' := ?_) #[true, false, false, false] rfl rfl (by kernel_rfl) (fun _ _ _ h => h) (Or.inl ⟨by rfl, ?_⟩) ?_ ?_
   rotate_left
   ·intro w'
    go_simp
    with_reducible rfl
   rotate_left
   ·simp only [Act.put, List.setIfInBounds_toArray, List.set_cons_zero, List.set_cons_succ, i64_w, i32_w]
    rfl
   refine pure_ (i := 2) (N := some 2) (v := ?_) (a' := ?_) #[true, false, true, false] rfl rfl (by kernel_rfl) (fun _ _ _ h => h) (Or.inl ⟨by rfl, ?_⟩) ?_ ?_
   rotate_left
   ·intro w'
    go_simp
    with_reducible rfl
   rotate_left
   ·simp only [Act.put, List.setIfInBounds_toArray, List.set_cons_zero, List.set_cons_succ, i64_w, i32_w]
    rfl
   refine take_ (i := 1) (N := some 23) (v := ?_) (a' := ?_) #[true, true, true, false] rfl rfl (by kernel_rfl) (fun _ _ _ h => h) (Or.inl ⟨by rfl, ?_⟩) hHeld ?_ ?_
   rotate_left
   ·intro w' s0
    go_simp
    with_reducible rfl
   rotate_left
   ·simp only [Act.put, List.setIfInBounds_toArray, List.set_cons_zero, List.set_cons_succ, i64_w, i32_w]
    rfl
   refine pure_ (i := 3) (N := some 3) (v := ?_) (a' := ?_) #[true, true, true, true] rfl rfl (by kernel_rfl) (fun _ _ _ h => h) (Or.inl ⟨by rfl, ?_⟩) ?_ ?_
   rotate_left
   ·intro w'
    go_simp
    with_reducible rfl
   rotate_left
   ·simp only [Act.put, List.setIfInBounds_toArray, List.set_cons_zero, List.set_cons_succ, i64_w, i32_w]
    rfl
   refine done_ (by kernel_rfl) ?_
   go_wp2_with fail
   go_ret2
   exact ⟨by rw [HV.out]; rfl, below_drew (below_alloc HB1.out _)⟩
 obtain ⟨rfl, rfl, rfl⟩ := Classical.not_not.1 hq
 obtain ⟨hc, hl1, hl2, hl6, hrow, hpk⟩ := scV_zero HSC.out
 have HV := Aside0.mk (show RV = (joinN (textL a b c d e l5 l6) ++ (⟨#[10]⟩ : ByteArray), 0) by
  rw [hRV]
  exact if_pos HSC.out)
 have HCK := Aside0.mk hc
 have HL1 := Aside0.mk (show 1 ≤ l5.length ∧ l5.length ≤ 64 ∧ l6.length ≤ 262144 from ⟨hl1, hl2, hl6⟩)
 have HRW := Aside0.mk hrow
 have HPK := Aside0.mk hpk
 clear hq g0 hRV hc hl1 hl2 hl6 hrow hpk
 have HS2 := Aside0.mk (blk_alloc HS1.out (.cells #[.int .i64 0, .int .i64 0, .int .i64 0] 70))
 have HB2 := Aside0.mk (below_alloc HB1.out (.cells #[.int .i64 0, .int .i64 0, .int .i64 0] 70))
 have s0 : ∀ o, (w1.alloc o).cell? ⟨w.heap.size, 0, none⟩ = some (.int .i64 a) := fun o => (blk_cell (blk_alloc HS1.out o) 0).trans rfl
 have s1 : ∀ o, (w1.alloc o).cell? ⟨w.heap.size, 1, none⟩ = some (.int .i64 b) := fun o => (blk_cell (blk_alloc HS1.out o) 1).trans rfl
 have s2 : ∀ o, (w1.alloc o).cell? ⟨w.heap.size, 2, none⟩ = some (.int .i64 c) := fun o => (blk_cell (blk_alloc HS1.out o) 2).trans rfl
 have s3 : ∀ o, (w1.alloc o).cell? ⟨w.heap.size, 3, none⟩ = some (.int .i64 d) := fun o => (blk_cell (blk_alloc HS1.out o) 3).trans rfl
 have s4 : ∀ o, (w1.alloc o).cell? ⟨w.heap.size, 4, none⟩ = some (.int .i64 e) := fun o => (blk_cell (blk_alloc HS1.out o) 4).trans rfl
 go_wp2_with fail
 clear s0 s1 s2 s3 s4
 generalize w1.alloc (.cells #[.int .i64 0, .int .i64 0, .int .i64 0] 70) = w2 at *
 clear HS1 HB1
 obtain ⟨p0, p1, p2, p3, p4, p5, p6, p7, p8⟩ := check_zero HCK.out
 have hcI : I64 c := by
  unfold I64
  by_cases e2 : a = 2
  ·have := p5 e2; omega
  ·have := p6 e2; omega
 have hdI : I64 d := by
  unfold I64
  by_cases e3 : a = 3
  ·have := p7 e3; omega
  ·have := p8 e3; omega
 have HDD := Aside0.mk (show d ≤ 16 ∧ 1 ≤ d by
  by_cases e3 : a = 3
  ·have := p7 e3; omega
  ·have := p8 e3; omega)
 have HBI := Aside0.mk (show I64 b ∧ I64 e from ⟨by unfold I64; omega, by unfold I64; omega⟩)
 have HCI := Aside0.mk (show I64 c ∧ I64 d from ⟨hcI, hdI⟩)
 clear p0 p1 p2 p3 p4 p5 p6 p7 p8 hcI hdI
 obtain ⟨L0, hL0⟩ : ∃ L0, joinB (confL a.toNat b c d e) = L0 := ⟨_, rfl⟩
 have HL0 := Aside0.mk hL0
 refine (tale_Conf.calls a b c d e L0 0 w2 (by rw [conf_f HBI.out.1 HCI.out.1 HCI.out.2 HBI.out.2, HCK.out, if_pos rfl, hL0]) HT.out HB2.out).mono ?_
 rintro e_ w3 ⟨rfl, hb⟩
 have HS3 := Aside0.mk (blk_below HS2.out hb)
 have HB3 := Aside0.mk (below_step HB2.out hb)
 clear hb HS2 HB2 hL0
 go_wp2_with (first | ((with_reducible refine gate_dst (N := 31) rfl ?_); refine Kd.R_lit Kd.string (w0 := w) w.heap.size 9 ?hg (N := 31) ?hd (xs := [L0]) (inner := [.string L0]) (ok := fun _ => True) (okp := fun _ => True) ?hr ?hp (fun _ hk => hk) trivial HB3.out HB3.out.size (by simp) ?_; (case hd => rfl); (case hg => rfl); (case hr => first | (go_simp; done) | (go_simp; rfl)); (case hp => exact (Reps.one (show Kd.M Kd.string _ _ _ L0 [.string L0] from rfl) (Reps.none _ _))); intro vW w4 ho hb hg_ hnew_; have W_1 := Aside0.mk ho; have HB4 := Aside0.mk hb; have HS4 := Aside0.mk (blk_grown HS3.out hg_ (by simp)); have s5 : w4.cell? ⟨w.heap.size, 5, none⟩ = some (.slice A5 l5.length c5) := (blk_cell HS4.out 5).trans rfl; clear ho hb hg_ hnew_ HB3 HS3))
 clear s5
 go_loopg [7, 35] l5.length (fun kq v7 v35 w' => ∃ (i : Nat) (xs : List ByteArray) (u : Value), v7 = u ∧ v35 = .int .i64 (i : Int) ∧ Aside0 (i + kq = l5.length) ∧ Aside0 (xs = [L0] ++ opsLines (l5.take i) 0) ∧ Aside0 (Kd.R Kd.string 9 w' w.heap.size (fun _ => True) u xs) ∧ Aside0 (w'.heap[w.heap.size]? = some (.cells #[.int .i64 a, .int .i64 b, .int .i64 c, .int .i64 d, .int .i64 e, .slice A5 l5.length c5, .slice A6 l6.length c6] 47 (0, 0))) ∧ Aside0 (Below w.heap.size w w'))
 case atStart => exact ⟨0, _, _, rfl, rfl, ⟨by omega⟩, ⟨by simp [opsLines]⟩, W_1, HS4, HB4⟩
 case round =>
  clear W_1 HS4 HB4
  obtain ⟨i, xs, u, hv7, rfl, HK, HXS, W_2, HS, HB⟩ := hrel
  replace hv7 := hv7.symm
  subst hv7
  by_cases hi : i < l5.length
  ·have e0 : decide ((i : Int) < (l5.length : Int)) = true := decide_eq_true (by omega)
   have q1 := Aside0.mk hi
   have p0 := eq_true (show (0 : Int) ≤ (i : Int) by omega)
   have p1 := eq_true (show (i : Int) < (l5.length : Int) by omega)
   have p2 := eq_true hi
   obtain ⟨ad, B0, d0, e0', hx0, hd0, hC0⟩ := at_LL HA5.out (i : Int) (by omega) (by omega)
   subst e0'
   rw [Int.toNat_natCast] at hx0
   replace hx0 := (HB.out.cell (World.block_lt_of_cell? w _ hx0)).trans hx0
   have HRR := Aside0.mk (HRW.out (rd_LL l5 (i : Int)) (by unfold rd_LL; rw [Int.toNat_natCast, List.getD_eq_getElem?_getD, List.getElem?_eq_getElem hi]; exact List.getElem_mem _))
   have HTR := Aside0.mk (HTY.out (rd_LL l5 (i : Int)) (by unfold rd_LL; rw [Int.toNat_natCast, List.getD_eq_getElem?_getD, List.getElem?_eq_getElem hi]; exact List.getElem_mem _))
   have HTK := Aside0.mk (opsLines_take l5 i hi)
   generalize rd_LL l5 (i : Int) = row at *
   have HC0 := Aside0.mk hC0
   have HD0 := Aside0.mk hd0
   have HPW := Aside0.mk (show w.heap.size ≤ wr.heap.size from HB.out.size)
   have HX := Aside0.mk hx0
   clear hi hC0 hd0
   go_wp2_with fail
   go_loopg [7, 42] row.length (fun k2 v7 v42 w' => ∃ (j : Nat) (ys : List ByteArray) (u : Value), v7 = u ∧ v42 = .int .i64 (j : Int) ∧ Aside0 (j + k2 = row.length) ∧ Aside0 (ys = xs ++ (row.take j).map (opLine (i : Int))) ∧ Aside0 (Kd.R Kd.string 9 w' w.heap.size (fun _ => True) u ys) ∧ Aside0 (w'.heap[w.heap.size]? = some (.cells #[.int .i64 a, .int .i64 b, .int .i64 c, .int .i64 d, .int .i64 e, .slice (some ad) l5.length c5, .slice A6 l6.length c6] 47 (0, 0))) ∧ Aside0 (Below w.heap.size w w'))
   case atStart => exact ⟨0, xs, _, rfl, rfl, ⟨by omega⟩, ⟨by simp⟩, W_2, HS, HB⟩
   case round =>
    clear W_2 HS HB hx0 HX HPW
    obtain ⟨j, ys, u, hv7, rfl, HK2, HYS, W_2, HS, HB⟩ := hrel
    replace hv7 := hv7.symm
    subst hv7
    by_cases hj : j < row.length
    ·have e1 : decide ((j : Int) < (row.length : Int)) = true := decide_eq_true (by omega)
     have q2 := Aside0.mk hj
     have p3 := eq_true (show (0 : Int) ≤ (j : Int) by omega)
     have p4 := eq_true (show (j : Int) < (row.length : Int) by omega)
     have p5 := eq_true hj
     obtain ⟨ad2, e2', y0, y1, y2, y3⟩ := at_T33 (Kd.C_below HC0.out HB.out) (j : Int) (by omega) (by omega)
     subst e2'
     have HOM := Aside0.mk (show rd_T33 row (j : Int) ∈ row by unfold rd_T33; rw [Int.toNat_natCast, List.getD_eq_getElem?_getD, List.getElem?_eq_getElem hj]; exact List.getElem_mem _)
     have HOT := Aside0.mk (show (row.take (j + 1)).map (opLine (i : Int)) = (row.take j).map (opLine (i : Int)) ++ [opLine (i : Int) (rd_T33 row (j : Int))] by
      rw [List.take_add_one, List.getElem?_eq_getElem hj, List.map_append]
      congr 1
      unfold rd_T33
      rw [Int.toNat_natCast, List.getD_eq_getElem?_getD, List.getElem?_eq_getElem hj]
      rfl)
     generalize rd_T33 row (j : Int) = o at *
     have HOZ := Aside0.mk (op_zero (show OpV a d o.f0 o.f1 o.f2 o.f3 = 0 from HRR.out.2 o HOM.out))
     have HOV := Aside0.mk (show OpV a d o.f0 o.f1 o.f2 o.f3 = 0 from HRR.out.2 o HOM.out)
     have HOU := Aside0.mk (HTR.out o HOM.out)
     have HOI := Aside0.mk (show I64 o.f3 by
      have h6 := HOZ.out
      have := HDD.out
      unfold I64
      by_cases e5 : a = 3 ∧ o.f0 = 1
      ·have := h6.2.2.2.2.2 e5; omega
      ·have := h6.2.2.2.2.1 e5; omega)
     have HIT := Aside0.mk (show I64 (i : Int) ∧ 0 ≤ (i : Int) ∧ (i : Int) < 64 from ⟨by have := q1.out; have := HL1.out; unfold I64; omega, by omega, by have := q1.out; have := HL1.out; omega⟩)
     obtain ⟨LO, hLO⟩ : ∃ LO, opLine (i : Int) o = LO := ⟨_, rfl⟩
     have HLO := Aside0.mk hLO
     have hop := fun (W : World) (hb : Below w.heap.size w W) => tale_Op.calls a b c d e (i : Int) o.f0 o.f1 o.f2 o.f3 LO 0 W (by rw [op_f HIT.out.1 HOU.out.1 HOU.out.2 HOI.out ⟨by have := HOZ.out; omega, by have := HOZ.out; omega⟩, if_pos ⟨HCK.out, HOV.out, HIT.out.2⟩, if_pos HCK.out, if_pos HOV.out, if_pos HIT.out.2, ← hLO]; rfl) HT.out hb
     obtain ⟨k, x, v, l⟩ := o
     simp only at y0 y1 y2 y3 hop
     rw [Int.toNat_natCast] at y0 y1 y2 y3
     clear hj hLO
     have s0 : ∀ o_, (wr.alloc o_).cell? ⟨w.heap.size, 0, none⟩ = some (.int .i64 a) := fun o_ => (blk_cell (blk_alloc HS.out o_) 0).trans rfl
     have s1 : ∀ o_, (wr.alloc o_).cell? ⟨w.heap.size, 1, none⟩ = some (.int .i64 b) := fun o_ => (blk_cell (blk_alloc HS.out o_) 1).trans rfl
     have s2 : ∀ o_, (wr.alloc o_).cell? ⟨w.heap.size, 2, none⟩ = some (.int .i64 c) := fun o_ => (blk_cell (blk_alloc HS.out o_) 2).trans rfl
     have s3 : ∀ o_, (wr.alloc o_).cell? ⟨w.heap.size, 3, none⟩ = some (.int .i64 d) := fun o_ => (blk_cell (blk_alloc HS.out o_) 3).trans rfl
     have s4 : ∀ o_, (wr.alloc o_).cell? ⟨w.heap.size, 4, none⟩ = some (.int .i64 e) := fun o_ => (blk_cell (blk_alloc HS.out o_) 4).trans rfl
     go_wp2_with fail
     refine (hop _ (below_alloc HB.out _)).mono ?_
     rintro e_ w5 ⟨rfl, hb⟩
     have W_3 := Aside0.mk (Kd.R_below (Kd.R_alloc W_2.out (.cells #[.int .i64 k, .int .u64 x, .int .u64 v, .int .i64 l] 33)) hb)
     have HS5 := Aside0.mk (blk_below (blk_alloc HS.out (.cells #[.int .i64 k, .int .u64 x, .int .u64 v, .int .i64 l] 33)) hb)
     have HB5 := Aside0.mk (below_step (below_alloc HB.out (.cells #[.int .i64 k, .int .u64 x, .int .u64 v, .int .i64 l] 33)) hb)
     have HYL := Aside0.mk (show ys.length ≤ 100000 by
      have h7 := opsLines_len (l5.take i) 0 (fun l hl => (HRW.out l (List.mem_of_mem_take hl)).1)
      have := HL1.out
      have := HRR.out.1
      rw [HYS.out, HXS.out]
      simp only [List.length_append, List.length_map, List.length_take, List.length_cons, List.length_nil] at h7 ⊢
      omega)
     clear hop hb W_2 HS HB y0 y1 y2 y3 s0 s1 s2 s3 s4
     have w2_ : wrap64 ((j : Int) + 1) = (j : Int) + 1 := by have := q2.out; have := HRR.out.1; unfold wrap64; omega
     go_wp2_with (first | ((with_reducible refine gate_builtin (b := .append) (xs := #[.tmp 54, .tmp 56]) rfl ?_); at_builtin; refine Kd.R_append Kd.string (w0 := w) w.heap.size rfl (.tmp 54) (.tmp 56) 55 9 (.string ⟨#[]⟩) 16 rfl Tryd.underlying55 infS rfl (by decide) (by omega) u ys (LO) [.string (LO)] (fun _ => True) (fun _ => False) rfl rfl ?aP (fun _ hk => hk.elim) (fun _ _ => trivial) W_3.out HB5.out ?aS ?aL ?_; (case aP => rfl); (case aS => exact (HB5.out).size); (case aL => have := HYL.out; omega); intro v1 w8 ho hb hgr hat; have W_6 := Aside0.mk ho; have HB6 := Aside0.mk hb; have HS6 := Aside0.mk (blk_grown HS5.out hgr (Kd.R_ne W_3.out HS5.out (by decide))); clear W_3 HB5 HS5; clear ho hb hgr hat))
     go_roundg (row.length - (j + 1))
     case rel => exact ⟨j + 1, ys ++ [LO], _, rfl, by first | rfl | (rw [w2_]; rfl), ⟨by have := q2.out; omega⟩, ⟨by rw [HOT.out, HLO.out, HYS.out, List.append_assoc]⟩, W_6, HS6, HB6⟩
     case measure => have := HK2.out; have := q2.out; omega
    ·have e1 : decide ((j : Int) < (row.length : Int)) = false := decide_eq_false (by omega)
     have p5 := eq_false hj
     have HYE := Aside0.mk (show ys = [L0] ++ opsLines (l5.take (i + 1)) 0 by
      rw [HYS.out, HTK.out, List.take_of_length_le (by omega), HXS.out, List.append_assoc])
     have w2_ : wrap64 ((i : Int) + 1) = (i : Int) + 1 := by have := q1.out; have := HL1.out; unfold wrap64; omega
     clear hj
     go_wp2_with fail
     go_roundg (l5.length - (i + 1))
     case rel => exact ⟨i + 1, ys, _, rfl, by first | rfl | (rw [w2_]; rfl), ⟨by have := q1.out; omega⟩, HYE, W_2, HS, HB⟩
     case measure => have := HK.out; have := q1.out; omega
  ·have e0 : decide ((i : Int) < (l5.length : Int)) = false := decide_eq_false (by omega)
   have p2 := eq_false hi
   have HXE := Aside0.mk (show xs = [L0] ++ opsLines l5 0 by rw [HXS.out, List.take_of_length_le (by omega)])
   have HXN := Aside0.mk (show xs.length ≤ 5000 by
    have h7 := opsLines_len l5 0 (fun l hl => (HRW.out l hl).1)
    have := HL1.out
    rw [HXE.out]
    simp only [List.length_append, List.length_cons, List.length_nil]
    omega)
   clear hi
   obtain ⟨n, hn⟩ : ∃ n, l5.length = n + 1 := ⟨l5.length - 1, by have := HL1.out; omega⟩
   obtain ⟨ad, B0, d0, e0', hx0, hd0, hC0⟩ := at_LL HA5.out (n : Int) (by omega) (by omega)
   subst e0'
   rw [Int.toNat_natCast] at hx0
   replace hx0 := (HB.out.cell (World.block_lt_of_cell? w _ hx0)).trans hx0
   have HLR := Aside0.mk (show (l5.getD (l5.length - 1) []).length = (rd_LL l5 (n : Int)).length by rw [hn, Nat.add_sub_cancel]; unfold rd_LL; rw [Int.toNat_natCast])
   generalize rd_LL l5 (n : Int) = row at *
   have n1 : wrap64 ((l5.length : Int) - 1) = (n : Int) := by have := HL1.out; unfold wrap64; omega
   have n2 : wrap64 (n : Int) = (n : Int) := by have := HL1.out; unfold wrap64; omega
   have n3 := eq_true (show (0 : Int) ≤ (n : Int) by omega)
   have n4 := eq_true (show (n : Int) < (l5.length : Int) by omega)
   have n5 := eq_true (show n < l5.length by omega)
   have HN5 := Aside0.mk hn
   clear hd0 hC0 hn
   have s5 : wr.cell? ⟨w.heap.size, 5, none⟩ = some (.slice (some ad) l5.length c5) := (blk_cell HS.out 5).trans rfl
   have s6 : wr.cell? ⟨w.heap.size, 6, none⟩ = some (.slice A6 l6.length c6) := (blk_cell HS.out 6).trans rfl
   by_cases hz : row.length = 0
   ·have z1 : ((row.length : Int) == 0) = true := by simp [hz]
    have HRZ := Aside0.mk hz
    have HIN := Aside0.mk (show I64 (l5.length : Int) from ⟨by omega, by have := HL1.out; omega⟩)
    go_wp2_with fail
    refine (itoaG.calls (l5.length : Int) (itB (l5.length : Int)) _ (itoaG_eq HIN.out) HT.out HB.out).mono ?_
    rintro e_ w10 ⟨rfl, hb⟩
    have W_10 := Aside0.mk (Kd.R_below W_2.out hb)
    have HS10 := Aside0.mk (blk_below HS.out hb)
    have HB10 := Aside0.mk (below_step HB.out hb)
    clear hb W_2 HS HB s5 s6 hx0
    go_wp2_with (first | ((with_reducible refine gate_dst (N := 74) rfl ?_); refine Kd.R_lit Kd.string (w0 := w) w.heap.size 9 ?hg (N := 74) ?hd (xs := [(⟨#[116, 104, 114, 101, 97, 100, 115]⟩ : ByteArray), (itB (l5.length : Int))]) (inner := [.string (⟨#[116, 104, 114, 101, 97, 100, 115]⟩ : ByteArray), .string (itB (l5.length : Int))]) (ok := fun _ => True) (okp := fun _ => True) ?hr ?hp (fun _ hk => hk) trivial HB10.out HB10.out.size (by simp) ?_; (case hd => rfl); (case hg => rfl); (case hr => first | (go_simp; done) | (go_simp; rfl)); (case hp => exact (Reps.one (show Kd.M Kd.string _ _ _ (⟨#[116, 104, 114, 101, 97, 100, 115]⟩ : ByteArray) [.string (⟨#[116, 104, 114, 101, 97, 100, 115]⟩ : ByteArray)] from rfl) (Reps.one (show Kd.M Kd.string _ _ _ (itB (l5.length : Int)) [.string (itB (l5.length : Int))] from rfl) (Reps.none _ _)))); intro vJ w11 ho hb hg_ hnew_; have W_11 := Aside0.mk (Kd.R_elder' W_10.out (fun q hq => by obtain ⟨b_, hb1, hb2⟩ := hnew_; rw [hb1] at hq; injection hq with hq; omega) (below_g hg_)); have J_11 := Aside0.mk ho; have HB11 := Aside0.mk hb; have HS11 := Aside0.mk (blk_grown HS10.out hg_ (by simp)); clear ho hb hg_ hnew_ HB10 HS10 W_10))
    obtain ⟨AJ, cJ, eJ, hcJ, hCJ⟩ := Kd.R_reads J_11.out
    have eJ' : vJ = .slice AJ 2 cJ := eJ
    subst eJ'
    have hj := tale_join.calls AJ cJ [(⟨#[116, 104, 114, 101, 97, 100, 115]⟩ : ByteArray), itB (l5.length : Int)] _ w11 hCJ hcJ (join_f (by simp) (thr_words l5.length HL1.out.2.1))
    obtain ⟨TL, hTL⟩ : ∃ TL, joinB [(⟨#[116, 104, 114, 101, 97, 100, 115]⟩ : ByteArray), itB (l5.length : Int)] = TL := ⟨_, rfl⟩
    rw [hTL] at hj
    have HTL := Aside0.mk (show thrLine l5.length = TL from hTL)
    clear hCJ hcJ J_11 eJ hTL
    refine hj.mono ?_
    rintro e_ w12 ⟨rfl, hb⟩
    have W_12 := Aside0.mk (Kd.R_below W_11.out hb)
    have HS12 := Aside0.mk (blk_below HS11.out hb)
    have HB12 := Aside0.mk (below_step HB11.out hb)
    have HBR12 := Aside0.mk (show w.heap.size ≤ w12.heap.size from HB12.out.size)
    clear hb hj W_11 HS11 HB11
    have s6 : w12.cell? ⟨w.heap.size, 6, none⟩ = some (.slice A6 l6.length c6) := (blk_cell HS12.out 6).trans rfl
    by_cases hp : 0 < l6.length
    ·have y1 : decide ((l6.length : Int) > 0) = true := decide_eq_true (by omega)
     have y2 := eq_true hp
     have HP6 := Aside0.mk hp
     have HPV := Aside0.mk (show picksV l6 = (⟨(picksLine l6).toArray⟩, 0) by
      unfold picksV
      rw [idxN_some l6 0 (fun p hp => by have := HPK.out p hp; have := HL1.out; omega), if_neg (by decide), if_neg (by have := HL1.out; omega)])
     clear hp
     go_wp2_with (first | ((with_reducible refine gate_builtin (b := .append) (xs := #[.tmp 71, .tmp 76]) rfl ?_); at_builtin; refine Kd.R_append Kd.string (w0 := w) w.heap.size rfl (.tmp 71) (.tmp 76) 55 9 (.string ⟨#[]⟩) 16 rfl Tryd.underlying55 infS rfl (by decide) (by omega) u xs (TL) [.string (TL)] (fun _ => True) (fun _ => False) rfl rfl ?aP (fun _ hk => hk.elim) (fun _ _ => trivial) (Kd.R_mono W_12.out (fun _ _ => trivial)) HB12.out ?aS ?aL ?_; (case aP => rfl); (case aS => exact (HB12.out).size); (case aL => have := HXN.out; omega); intro v1 w13 ho hb hgr hat; have W_13 := Aside0.mk ho; have HB13 := Aside0.mk hb; have HS13 := Aside0.mk (blk_grown HS12.out hgr (Kd.R_ne W_12.out HS12.out (by decide))); have s6' : w13.cell? ⟨w.heap.size, 6, none⟩ = some (.slice A6 l6.length c6) := (blk_cell HS13.out 6).trans rfl; clear ho hb hgr hat s6))
     refine (tale_Picks.calls A6 c6 l6 ⟨(picksLine l6).toArray⟩ 0 w13 (Kd.C_below HA6.out HB13.out) HC6.out (congrArg some HPV.out) HT.out HB13.out).mono ?_
     rintro e_ w15 ⟨rfl, hb⟩
     have W_15 := Aside0.mk (Kd.R_below W_13.out hb)
     have HB15 := Aside0.mk (below_step HB13.out hb)
     clear hb
     obtain ⟨PL, hPL⟩ : ∃ PL : ByteArray, (⟨(picksLine l6).toArray⟩ : ByteArray) = PL := ⟨_, rfl⟩
     rw [hPL]
     have HPLE := Aside0.mk hPL
     clear hPL
     go_wp2_with (first | ((with_reducible refine gate_builtin (b := .append) (xs := #[.tmp 88, .tmp 90]) rfl ?_); at_builtin; refine Kd.R_append Kd.string (w0 := w) w.heap.size rfl (.tmp 88) (.tmp 90) 55 9 (.string ⟨#[]⟩) 16 rfl Tryd.underlying55 infS rfl (by decide) (by omega) v1 (xs ++ [TL]) (PL) [.string (PL)] (fun _ => True) (fun _ => False) rfl rfl ?aP (fun _ hk => hk.elim) (fun _ _ => trivial) W_15.out HB15.out ?aS ?aL ?_; (case aP => rfl); (case aS => exact (HB15.out).size); (case aL => have := HXN.out; (try simp only [List.length_append, List.length_cons, List.length_nil]); omega); intro v2 w8 ho hb hgr hat; have W_6 := Aside0.mk ho; have HB6 := Aside0.mk hb; skip; clear ho hb hgr hat))
     have HXF := Aside0.mk (show (xs ++ [TL]) ++ [PL] = textL a b c d e l5 l6 from by rw [← HPLE.out, ← HTL.out]; unfold textL; rw [HL0.out, HLR.out, if_pos HRZ.out, if_pos HP6.out, HXE.out]; (try simp))
     obtain ⟨AW, cW, eW, hcW, hCW⟩ := Kd.R_reads W_6.out
     subst eW
     have hj := joinS_T AW cW ((xs ++ [TL]) ++ [PL]) _ hCW hcW (by rw [HXF.out]; exact (textL_len HSC.out).2) (by have := (textL_len HSC.out).1; rw [HXF.out]; omega) (by have := textL_join HSC.out HTY.out; rw [HXF.out]; omega)
     have z9 := eq_false (show ¬ 9223372036854775807 < (joinN ((xs ++ [TL]) ++ [PL])).size + 1 by rw [joinN_size, HXF.out]; have := textL_join HSC.out HTY.out; omega)
     have HXG := Aside0.mk (show joinN ((xs ++ [TL]) ++ [PL]) = joinN (textL a b c d e l5 l6) by rw [HXF.out])
     generalize joinN ((xs ++ [TL]) ++ [PL]) = jn at *
     clear hCW hcW W_6
     go_wp2_with fail
     refine hj.mono ?_
     rintro e_ w20 ⟨rfl, hb⟩
     have HB20 := Aside0.mk (below_step HB6.out hb)
     clear hb hj
     go_wp2_with fail
     go_ret2
     exact ⟨by rw [HV.out, ← HXG.out]; rfl, HB20.out⟩
    ·have y1 : decide ((l6.length : Int) > 0) = false := decide_eq_false (by omega)
     have y2 := eq_false hp
     have HP6 := Aside0.mk hp
     clear hp
     go_wp2_with (first | ((with_reducible refine gate_builtin (b := .append) (xs := #[.tmp 71, .tmp 76]) rfl ?_); at_builtin; refine Kd.R_append Kd.string (w0 := w) w.heap.size rfl (.tmp 71) (.tmp 76) 55 9 (.string ⟨#[]⟩) 16 rfl Tryd.underlying55 infS rfl (by decide) (by omega) u xs (TL) [.string (TL)] (fun _ => True) (fun _ => False) rfl rfl ?aP (fun _ hk => hk.elim) (fun _ _ => trivial) (Kd.R_mono W_12.out (fun _ _ => trivial)) HB12.out ?aS ?aL ?_; (case aP => rfl); (case aS => exact (HB12.out).size); (case aL => have := HXN.out; omega); intro v1 w13 ho hb hgr hat; have W_13 := Aside0.mk ho; have HB13 := Aside0.mk hb; have HS13 := Aside0.mk (blk_grown HS12.out hgr (Kd.R_ne W_12.out HS12.out (by decide))); have s6' : w13.cell? ⟨w.heap.size, 6, none⟩ = some (.slice A6 l6.length c6) := (blk_cell HS13.out 6).trans rfl; clear ho hb hgr hat s6))
     have HXF := Aside0.mk (show (xs ++ [TL]) = textL a b c d e l5 l6 from by rw [← HTL.out]; unfold textL; rw [HL0.out, HLR.out, if_pos HRZ.out, if_neg HP6.out, HXE.out]; (try simp))
     obtain ⟨AW, cW, eW, hcW, hCW⟩ := Kd.R_reads W_13.out
     subst eW
     have hj := joinS_T AW cW ((xs ++ [TL])) _ hCW hcW (by rw [HXF.out]; exact (textL_len HSC.out).2) (by have := (textL_len HSC.out).1; rw [HXF.out]; omega) (by have := textL_join HSC.out HTY.out; rw [HXF.out]; omega)
     have z9 := eq_false (show ¬ 9223372036854775807 < (joinN ((xs ++ [TL]))).size + 1 by rw [joinN_size, HXF.out]; have := textL_join HSC.out HTY.out; omega)
     have HXG := Aside0.mk (show joinN ((xs ++ [TL])) = joinN (textL a b c d e l5 l6) by rw [HXF.out])
     generalize joinN ((xs ++ [TL])) = jn at *
     clear hCW hcW W_13
     go_wp2_with fail
     refine hj.mono ?_
     rintro e_ w20 ⟨rfl, hb⟩
     have HB20 := Aside0.mk (below_step HB13.out hb)
     clear hb hj
     go_wp2_with fail
     go_ret2
     exact ⟨by rw [HV.out, ← HXG.out]; rfl, HB20.out⟩
   ·have z1 : ((row.length : Int) == 0) = false := beq_eq_false_iff_ne.mpr (by omega)
    have HRZ := Aside0.mk hz
    have z2 := eq_false hz
    by_cases hp : 0 < l6.length
    ·have y1 : decide ((l6.length : Int) > 0) = true := decide_eq_true (by omega)
     have y2 := eq_true hp
     have HP6 := Aside0.mk hp
     have HPV := Aside0.mk (show picksV l6 = (⟨(picksLine l6).toArray⟩, 0) by
      unfold picksV
      rw [idxN_some l6 0 (fun p hp => by have := HPK.out p hp; have := HL1.out; omega), if_neg (by decide), if_neg (by have := HL1.out; omega)])
     clear hp
     go_wp2_with fail
     refine (tale_Picks.calls A6 c6 l6 ⟨(picksLine l6).toArray⟩ 0 wr (Kd.C_below HA6.out HB.out) HC6.out (congrArg some HPV.out) HT.out HB.out).mono ?_
     rintro e_ w15 ⟨rfl, hb⟩
     have W_15 := Aside0.mk (Kd.R_below W_2.out hb)
     have HB15 := Aside0.mk (below_step HB.out hb)
     clear hb
     obtain ⟨PL, hPL⟩ : ∃ PL : ByteArray, (⟨(picksLine l6).toArray⟩ : ByteArray) = PL := ⟨_, rfl⟩
     rw [hPL]
     have HPLE := Aside0.mk hPL
     clear hPL
     go_wp2_with (first | ((with_reducible refine gate_builtin (b := .append) (xs := #[.tmp 88, .tmp 90]) rfl ?_); at_builtin; refine Kd.R_append Kd.string (w0 := w) w.heap.size rfl (.tmp 88) (.tmp 90) 55 9 (.string ⟨#[]⟩) 16 rfl Tryd.underlying55 infS rfl (by decide) (by omega) u xs (PL) [.string (PL)] (fun _ => True) (fun _ => False) rfl rfl ?aP (fun _ hk => hk.elim) (fun _ _ => trivial) W_15.out HB15.out ?aS ?aL ?_; (case aP => rfl); (case aS => exact (HB15.out).size); (case aL => have := HXN.out; (try simp only [List.length_append, List.length_cons, List.length_nil]); omega); intro v1 w8 ho hb hgr hat; have W_6 := Aside0.mk ho; have HB6 := Aside0.mk hb; skip; clear ho hb hgr hat))
     have HXF := Aside0.mk (show xs ++ [PL] = textL a b c d e l5 l6 from by rw [← HPLE.out]; unfold textL; rw [HL0.out, HLR.out, if_neg HRZ.out, if_pos HP6.out, HXE.out]; (try simp))
     obtain ⟨AW, cW, eW, hcW, hCW⟩ := Kd.R_reads W_6.out
     subst eW
     have hj := joinS_T AW cW (xs ++ [PL]) _ hCW hcW (by rw [HXF.out]; exact (textL_len HSC.out).2) (by have := (textL_len HSC.out).1; rw [HXF.out]; omega) (by have := textL_join HSC.out HTY.out; rw [HXF.out]; omega)
     have z9 := eq_false (show ¬ 9223372036854775807 < (joinN (xs ++ [PL])).size + 1 by rw [joinN_size, HXF.out]; have := textL_join HSC.out HTY.out; omega)
     have HXG := Aside0.mk (show joinN (xs ++ [PL]) = joinN (textL a b c d e l5 l6) by rw [HXF.out])
     generalize joinN (xs ++ [PL]) = jn at *
     clear hCW hcW W_6
     go_wp2_with fail
     refine hj.mono ?_
     rintro e_ w20 ⟨rfl, hb⟩
     have HB20 := Aside0.mk (below_step HB6.out hb)
     clear hb hj
     go_wp2_with fail
     go_ret2
     exact ⟨by rw [HV.out, ← HXG.out]; rfl, HB20.out⟩
    ·have y1 : decide ((l6.length : Int) > 0) = false := decide_eq_false (by omega)
     have y2 := eq_false hp
     have HP6 := Aside0.mk hp
     clear hp
     go_wp2_with fail
     have HXF := Aside0.mk (show xs = textL a b c d e l5 l6 from by unfold textL; rw [HL0.out, HLR.out, if_neg HRZ.out, if_neg HP6.out, HXE.out]; (try simp))
     obtain ⟨AW, cW, eW, hcW, hCW⟩ := Kd.R_reads W_2.out
     subst eW
     have hj := joinS_T AW cW (xs) _ hCW hcW (by rw [HXF.out]; exact (textL_len HSC.out).2) (by have := (textL_len HSC.out).1; rw [HXF.out]; omega) (by have := textL_join HSC.out HTY.out; rw [HXF.out]; omega)
     have z9 := eq_false (show ¬ 9223372036854775807 < (joinN (xs)).size + 1 by rw [joinN_size, HXF.out]; have := textL_join HSC.out HTY.out; omega)
     have HXG := Aside0.mk (show joinN (xs) = joinN (textL a b c d e l5 l6) by rw [HXF.out])
     generalize joinN (xs) = jn at *
     clear hCW hcW W_2
     go_wp2_with fail
     refine hj.mono ?_
     rintro e_ w20 ⟨rfl, hb⟩
     have HB20 := Aside0.mk (below_step HB.out hb)
     clear hb hj
     go_wp2_with fail
     go_ret2
     exact ⟨by rw [HV.out, ← HXG.out]; rfl, HB20.out⟩
end Go.Proofs.YtinmmnljicmppaaDoor.PTaleApart
