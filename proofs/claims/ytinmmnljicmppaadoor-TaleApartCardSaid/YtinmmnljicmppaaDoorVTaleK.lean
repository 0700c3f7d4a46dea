import Derived.Test.YtinmmnljicmppaaDoorVTaleK1
import Derived.Test.YtinmmnljicmppaaDoorVTaleC
import Derived.Test.YtinmmnljicmppaaDoorVTaleE
import Derived.Test.YtinmmnljicmppaaDoorVTaleI
/-
tale.Picks.
-/
namespace Go.Proofs.YtinmmnljicmppaaDoor.PTaleApart
open Go Go.RowKit Go.Proofs.YtinmmnljicmppaaDoorW.PrintWords Go.Proofs.YtinmmnljicmppaaDoorW.PrintLast Go.Proofs.YtinmmnljicmppaaDoorW.PrintMore Go.Proofs.YtinmmnljicmppaaDoor.Str
attribute [local go_sem] max2_int min2_int max_two min_two max_three min_three max_four min_four
set_option linter.unusedVariables false
set_option linter.unusedSimpArgs false
set_option maxHeartbeats 64000000 in
set_option maxRecDepth 100000 in
theorem picks_T (A0 : Option Addr) (c0 : Nat) (l0 : List Int) (w : World) (hr : Kd.C (Kd.int .i64) w A0 l0.length l0) (hc0 : l0.length ≤ c0) (ht : WT w) :
  Calls Tryd.prog 10 #[.slice A0 l0.length c0] w fun e w' => e = .returned (.tuple #[.string (picksV l0).1, .int .i64 (picksV l0).2]) ∧ Below w.heap.size w w' := by
 have hu55 := Tryd.underlying55
 have HR := Aside0.mk hr
 have HT := Aside0.mk ht
 have hcon := contains_T A0 c0 l0 w hr
 clear hr ht
 by_cases h0 : 0 ≤ idxN 64 l0 0
 ·rw [show picksV l0 = (⟨#[]⟩, 3) from if_pos h0]
  rw [decide_eq_true h0] at hcon
  clear h0
  go_enter Tryd.func10, Tryd.ntmps10
  go_wp2_with fail
  refine hcon.mono ?_
  rintro e w1 ⟨rfl, hb⟩
  have HB := Aside0.mk hb
  clear hb hcon
  go_wp2_with fail
  go_ret2
  exact ⟨rfl, HB.out⟩
 rw [decide_eq_false h0] at hcon
 by_cases h1 : 262144 < l0.length
 ·rw [show picksV l0 = (⟨#[]⟩, 9) from (if_neg h0).trans (if_pos h1)]
  have d1 : decide ((l0.length : Int) > 262144) = true := decide_eq_true (by omega)
  have d2 : decide ((262144 : Int) < (l0.length : Int)) = true := decide_eq_true (by omega)
  have d3 := eq_true (show (l0.length : Int) > 262144 by omega)
  have d4 := eq_true h1
  clear h0 h1
  go_enter Tryd.func10, Tryd.ntmps10
  go_wp2_with fail
  refine hcon.mono ?_
  rintro e w1 ⟨rfl, hb⟩
  have HB := Aside0.mk hb
  clear hb hcon
  go_wp2_with fail
  go_ret2
  exact ⟨rfl, HB.out⟩
 rw [show picksV l0 = (⟨(picksLine l0).toArray⟩, 0) from (if_neg h0).trans (if_neg h1)]
 have HP := Aside0.mk (idxN_none l0 0 (Int.le_refl 0) h0)
 have HL := Aside0.mk (show l0.length ≤ 262144 by omega)
 have d1 : decide ((l0.length : Int) > 262144) = false := decide_eq_false (by omega)
 have d2 : decide ((262144 : Int) < (l0.length : Int)) = false := decide_eq_false (by omega)
 have d3 := eq_false (show ¬ (l0.length : Int) > 262144 by omega)
 have d4 := eq_false h1
 clear h0 h1
 obtain ⟨G, hG⟩ : ∃ G, G = picksL l0 := ⟨_, rfl⟩
 rw [← picksL_join, ← hG]
 have HG := Aside0.mk hG
 have HGS := Aside0.mk (show [(⟨#[112, 105, 99, 107, 115]⟩ : ByteArray)] ++ (runs (l0.drop 0)).map pickB = G by rw [hG]; rfl)
 clear hG
 go_enter Tryd.func10, Tryd.ntmps10
 go_wp2_with fail
 refine hcon.mono ?_
 rintro e w1 ⟨rfl, hb⟩
 have HB := Aside0.mk hb
 clear hb hcon
 go_wp2_with (first | ((with_reducible refine gate_dst (N := 15) rfl ?_); refine Kd.R_lit Kd.string (w0 := w) w.heap.size 9 ?hg (N := 15) ?hd (xs := [(⟨#[112, 105, 99, 107, 115]⟩ : ByteArray)]) (inner := [.string (⟨#[112, 105, 99, 107, 115]⟩ : ByteArray)]) (ok := fun _ => True) (okp := fun _ => True) ?hr ?hp (fun _ hk => hk) trivial HB.out HB.out.size (by simp) ?_; (case hd => rfl); (case hg => rfl); (case hr => first | (go_simp; done) | (go_simp; rfl)); (case hp => exact (Reps.one (show Kd.M Kd.string _ _ _ (⟨#[112, 105, 99, 107, 115]⟩ : ByteArray) [.string (⟨#[112, 105, 99, 107, 115]⟩ : ByteArray)] from rfl) (Reps.none _ _))); intro vW w2 ho hb hg_ hnew_; have W_1 := Aside0.mk ho; have HB2 := Aside0.mk hb; clear ho hb hg_ hnew_ HB))
 go_loopg [4, 5] l0.length (fun kq v4 v5 w' => ∃ (i : Nat) (xs : List ByteArray) (u : Value), v4 = u ∧ v5 = .int .i64 (i : Int) ∧ Aside0 (i + kq = l0.length) ∧ Aside0 (xs ++ (runs (l0.drop i)).map pickB = G) ∧ Aside0 (xs.length ≤ i + 1) ∧ Aside0 (Kd.R Kd.string 9 w' w.heap.size (fun _ => True) u xs) ∧ Aside0 (Below w.heap.size w w'))
 case atStart => exact ⟨0, _, _, rfl, rfl, ⟨by omega⟩, HGS, ⟨by simp⟩, W_1, HB2⟩
 case round =>
  clear HGS W_1 HB2
  obtain ⟨i, xs, u, hv4, rfl, HK, HGS, HXL, W_2, HB⟩ := hrel
  replace hv4 := hv4.symm
  subst hv4
  by_cases hi : i < l0.length
  ·have e0 : decide ((i : Int) < (l0.length : Int)) = true := decide_eq_true (by omega)
   have q1 := Aside0.mk hi
   have e1 := eq_true hi
   clear hi
   go_wp2_with fail
   obtain ⟨x, r, hxr⟩ : ∃ x r, l0.drop i = x :: r := ⟨_, _, List.drop_eq_getElem_cons q1.out⟩
   have HXR := Aside0.mk hxr
   have HX := Aside0.mk (show rd l0 (i : Int) = x by
    have h5 := drop_rd l0 (i : Int) (by omega) (by have := q1.out; omega)
    rw [Int.toNat_natCast, hxr] at h5
    injection h5 with h5 _
    exact h5.symm)
   have HXP := Aside0.mk (show 0 ≤ x ∧ x < 64 from HP.out x (List.mem_of_mem_drop (show x ∈ l0.drop i by rw [hxr]; simp)))
   have HRL := Aside0.mk (show i + 1 + r.length = l0.length by
    have h5 := congrArg List.length hxr
    have := q1.out
    simp only [List.length_drop, List.length_cons] at h5
    omega)
   clear hxr
   go_loopg [6] (l0.length - i) (fun k6 v6 w' => ∃ (m n : Nat), v6 = .int .i64 (n : Int) ∧ Aside0 (n = m + 1 ∧ i + m + 1 ≤ l0.length ∧ i + m + k6 = l0.length) ∧ Aside0 (m ≤ (r.takeWhile (fun y => y == x)).length) ∧ Aside0 (Kd.R Kd.string 9 w' w.heap.size (fun _ => True) u xs) ∧ Aside0 (Below w.heap.size w w'))
   case atStart => exact ⟨0, 1, rfl, ⟨by have := q1.out; omega⟩, ⟨Nat.zero_le _⟩, W_2, HB⟩
   case round =>
    clear W_2 HB
    obtain ⟨m, n, rfl, HM, HTW, W_2, HB⟩ := hrel
    obtain ⟨z, hz⟩ : ∃ z : Int, z = (i : Int) + (n : Int) := ⟨_, rfl⟩
    have w1 : wrap64 ((i : Int) + (n : Int)) = z := by have := HM.out; have := HL.out; unfold wrap64; omega
    have w2 : wrap64 ((n : Int) + 1) = (n : Int) + 1 := by have := HM.out; have := HL.out; unfold wrap64; omega
    have HZ := Aside0.mk hz
    clear hz
    have HC := Aside0.mk (Kd.C_below HR.out HB.out)
    obtain ⟨ad, ea, hx0⟩ := Kd.at_int HC.out (i : Int) (by omega) (by have := q1.out; omega)
    subst ea
    rw [HX.out] at hx0
    rw [Int.toNat_natCast] at hx0
    have p0 := eq_true (show (0 : Int) ≤ (i : Int) by omega)
    have p1 := eq_true (show (i : Int) < (l0.length : Int) by have := q1.out; omega)
    by_cases hn : z < (l0.length : Int)
    ·have q2 := Aside0.mk hn
     have b1 : decide (z < (l0.length : Int)) = true := decide_eq_true hn
     have b2 := eq_true hn
     have b3 := eq_true (show (0 : Int) ≤ z by have := HZ.out; omega)
     obtain ⟨ad', ea', hy0⟩ := Kd.at_int HC.out z (by have := HZ.out; omega) hn
     obtain rfl : ad = ad' := by injection ea'
     clear ea'
     obtain ⟨y, hy⟩ : ∃ y, rd l0 z = y := ⟨_, rfl⟩
     rw [hy] at hy0
     have HY := Aside0.mk (show r[m]? = some y by
      have h6 : (l0.drop i)[m + 1]? = some y := by
       have hzn : z.toNat = i + (m + 1) := by have := HZ.out; have := HM.out; omega
       have hlt : i + (m + 1) < l0.length := by omega
       rw [List.getElem?_drop, List.getElem?_eq_getElem hlt]
       rw [← hy]
       unfold rd
       simp only [hzn]
       simp [hlt]
      rw [HXR.out] at h6
      simpa using h6)
     clear hn hy
     by_cases hyx : y = x
     ·subst hyx
      have e5 : (y == y) = true := by simp
      have HT2 := Aside0.mk ((tw_step y r m HTW.out).1 HY.out)
      go_wp2_with fail
      refine start_ (n := 19) (S := fun w' => w'.cell? (ad.add i) = some (.int .i64 y) ∧ w'.cell? (ad.add z.toNat) = some (.int .i64 y)) (ds := []) #[false, false, false, false, false, false, false, false, false, false, false, false, false, false, false, false, false, false, false] (by kernel_rfl) rfl rfl ⟨hx0, hy0⟩ (fun hHeld => ?_)
      refine pure_ (i := 0) (N := some 20) (v := ?_) (a' := ?_) #[true, false, false, false, false, false, false, false, false, false, false, false, false, false, false, false, false, false, false] rfl rfl (by kernel_rfl) (fun _ _ _ h => h) (Or.inl ⟨by rfl, ?_⟩) ?_ ?_
      rotate_left
      ·intro w'
       go_simp
       with_reducible rfl
      rotate_left
      ·simp only [Act.put, List.setIfInBounds_toArray, List.set_cons_zero, List.set_cons_succ, i64_w, i32_w]
       rfl
      refine pure_ (i := 1) (N := some 21) (v := ?_) (a' := ?_) #[true, true, false, false, false, false, false, false, false, false, false, false, false, false, false, false, false, false, false] rfl rfl (by kernel_rfl) (fun _ _ _ h => h) (Or.inl ⟨by rfl, ?_⟩) ?_ ?_
      rotate_left
      ·intro w'
       go_simp
       with_reducible rfl
      rotate_left
      ·simp only [Act.put, List.setIfInBounds_toArray, List.set_cons_zero, List.set_cons_succ, i64_w, i32_w]
       rfl
      refine pure_ (i := 2) (N := some 22) (v := ?_) (a' := ?_) #[true, true, true, false, false, false, false, false, false, false, false, false, false, false, false, false, false, false, false] rfl rfl (by kernel_rfl) (fun _ _ _ h => h) (Or.inl ⟨by rfl, ?_⟩) ?_ ?_
      rotate_left
      ·intro w'
       go_simp
       with_reducible rfl
      rotate_left
      ·simp only [Act.put, List.setIfInBounds_toArray, List.set_cons_zero, List.set_cons_succ, i64_w, i32_w]
       rfl
      refine pure_ (i := 3) (N := some 23) (v := ?_) (a' := ?_) #[true, true, true, true, false, false, false, false, false, false, false, false, false, false, false, false, false, false, false] rfl rfl (by kernel_rfl) (fun _ _ _ h => h) (Or.inl ⟨by rfl, ?_⟩) ?_ ?_
      rotate_left
      ·intro w'
       go_simp
       with_reducible rfl
      rotate_left
      ·simp only [Act.put, List.setIfInBounds_toArray, List.set_cons_zero, List.set_cons_succ, i64_w, i32_w]
       rfl
      refine pure_ (i := 4) (N := some 24) (v := ?_) (a' := ?_) #[true, true, true, true, true, false, false, false, false, false, false, false, false, false, false, false, false, false, false] rfl rfl (by kernel_rfl) (fun _ _ _ h => h) (Or.inl ⟨by rfl, ?_⟩) ?_ ?_
      rotate_left
      ·intro w'
       go_simp
       with_reducible rfl
      rotate_left
      ·simp only [Act.put, List.setIfInBounds_toArray, List.set_cons_zero, List.set_cons_succ, i64_w, i32_w]
       rfl
      refine pure_ (i := 5) (N := some 25) (v := ?_) (a' := ?_) #[true, true, true, true, true, true, false, false, false, false, false, false, false, false, false, false, false, false, false] rfl rfl (by kernel_rfl) (fun _ _ _ h => h) (Or.inl ⟨by rfl, ?_⟩) ?_ ?_
      rotate_left
      ·intro w'
       go_simp
       with_reducible rfl
      rotate_left
      ·simp only [Act.put, List.setIfInBounds_toArray, List.set_cons_zero, List.set_cons_succ, i64_w, i32_w]
       rfl
      refine pure_ (i := 6) (N := some 26) (v := ?_) (a' := ?_) #[true, true, true, true, true, true, true, false, false, false, false, false, false, false, false, false, false, false, false] rfl rfl (by kernel_rfl) (fun _ _ _ h => h) (Or.inl ⟨by rfl, ?_⟩) ?_ ?_
      rotate_left
      ·intro w'
       go_simp
       with_reducible rfl
      rotate_left
      ·simp only [Act.put, List.setIfInBounds_toArray, List.set_cons_zero, List.set_cons_succ, i64_w, i32_w]
       rfl
      refine pure_ (i := 7) (N := some 27) (v := ?_) (a' := ?_) #[true, true, true, true, true, true, true, true, false, false, false, false, false, false, false, false, false, false, false] rfl rfl (by kernel_rfl) (fun _ _ _ h => h) (Or.inl ⟨by rfl, ?_⟩) ?_ ?_
      rotate_left
      ·intro w'
       go_simp
       with_reducible rfl
      rotate_left
      ·simp only [Act.put, List.setIfInBounds_toArray, List.set_cons_zero, List.set_cons_succ, i64_w, i32_w]
       rfl
      refine pure_ (i := 8) (N := some 28) (v := ?_) (a' := ?_) #[true, true, true, true, true, true, true, true, true, false, false, false, false, false, false, false, false, false, false] rfl rfl (by kernel_rfl) (fun _ _ _ h => h) (Or.inl ⟨by rfl, ?_⟩) ?_ ?_
      rotate_left
      ·intro w'
       go_simp
       with_reducible rfl
      rotate_left
      ·simp only [Act.put, List.setIfInBounds_toArray, List.set_cons_zero, List.set_cons_succ, i64_w, i32_w]
       rfl
      refine pure_ (i := 9) (N := some 29) (v := ?_) (a' := ?_) #[true, true, true, true, true, true, true, true, true, true, false, false, false, false, false, false, false, false, false] rfl rfl (by kernel_rfl) (fun _ _ _ h => h) (Or.inl ⟨by rfl, ?_⟩) ?_ ?_
      rotate_left
      ·intro w'
       go_simp
       with_reducible rfl
      rotate_left
      ·simp only [Act.put, List.setIfInBounds_toArray, List.set_cons_zero, List.set_cons_succ, i64_w, i32_w]
       rfl
      refine pure_ (i := 10) (N := some 30) (v := ?_) (a' := ?_) #[true, true, true, true, true, true, true, true, true, true, true, false, false, false, false, false, false, false, false] rfl rfl (by kernel_rfl) (fun _ _ _ h => h) (Or.inl ⟨by rfl, ?_⟩) ?_ ?_
      rotate_left
      ·intro w'
       go_simp
       with_reducible rfl
      rotate_left
      ·simp only [Act.put, List.setIfInBounds_toArray, List.set_cons_zero, List.set_cons_succ, i64_w, i32_w]
       rfl
      refine pure_ (i := 11) (N := some 31) (v := ?_) (a' := ?_) #[true, true, true, true, true, true, true, true, true, true, true, true, false, false, false, false, false, false, false] rfl rfl (by kernel_rfl) (fun _ _ _ h => h) (Or.inl ⟨by rfl, ?_⟩) ?_ ?_
      rotate_left
      ·intro w'
       go_simp
       with_reducible rfl
      rotate_left
      ·simp only [Act.put, List.setIfInBounds_toArray, List.set_cons_zero, List.set_cons_succ, i64_w, i32_w]
       rfl
      refine pure_ (i := 13) (N := some 33) (v := ?_) (a' := ?_) #[true, true, true, true, true, true, true, true, true, true, true, true, false, true, false, false, false, false, false] rfl rfl (by kernel_rfl) (fun _ _ _ h => h) (Or.inl ⟨by rfl, ?_⟩) ?_ ?_
      rotate_left
      ·intro w'
       go_simp
       with_reducible rfl
      rotate_left
      ·simp only [Act.put, List.setIfInBounds_toArray, List.set_cons_zero, List.set_cons_succ, i64_w, i32_w]
       rfl
      refine pure_ (i := 14) (N := some 34) (v := ?_) (a' := ?_) #[true, true, true, true, true, true, true, true, true, true, true, true, false, true, true, false, false, false, false] rfl rfl (by kernel_rfl) (fun _ _ _ h => h) (Or.inl ⟨by rfl, ?_⟩) ?_ ?_
      rotate_left
      ·intro w'
       go_simp
       with_reducible rfl
      rotate_left
      ·simp only [Act.put, List.setIfInBounds_toArray, List.set_cons_zero, List.set_cons_succ, i64_w, i32_w]
       rfl
      refine pure_ (i := 15) (N := some 35) (v := ?_) (a' := ?_) #[true, true, true, true, true, true, true, true, true, true, true, true, false, true, true, true, false, false, false] rfl rfl (by kernel_rfl) (fun _ _ _ h => h) (Or.inl ⟨by rfl, ?_⟩) ?_ ?_
      rotate_left
      ·intro w'
       go_simp
       with_reducible rfl
      rotate_left
      ·simp only [Act.put, List.setIfInBounds_toArray, List.set_cons_zero, List.set_cons_succ, i64_w, i32_w]
       rfl
      refine take_ (i := 12) (N := some 32) (v := ?_) (a' := ?_) #[true, true, true, true, true, true, true, true, true, true, true, true, true, true, true, true, false, false, false] rfl rfl (by kernel_rfl) (fun _ _ _ h => h) (Or.inl ⟨by rfl, ?_⟩) hHeld ?_ ?_
      rotate_left
      ·rintro w' ⟨s0, s1⟩
       go_simp
       with_reducible rfl
      rotate_left
      ·simp only [Act.put, List.setIfInBounds_toArray, List.set_cons_zero, List.set_cons_succ, i64_w, i32_w]
       rfl
      refine take_ (i := 16) (N := some 36) (v := ?_) (a' := ?_) #[true, true, true, true, true, true, true, true, true, true, true, true, true, true, true, true, true, false, false] rfl rfl (by kernel_rfl) (fun _ _ _ h => h) (Or.inl ⟨by rfl, ?_⟩) hHeld ?_ ?_
      rotate_left
      ·rintro w' ⟨s0, s1⟩
       go_simp
       with_reducible rfl
      rotate_left
      ·simp only [Act.put, List.setIfInBounds_toArray, List.set_cons_zero, List.set_cons_succ, i64_w, i32_w]
       rfl
      refine pure_ (i := 17) (N := some 37) (v := ?_) (a' := ?_) #[true, true, true, true, true, true, true, true, true, true, true, true, true, true, true, true, true, true, false] rfl rfl (by kernel_rfl) (fun _ _ _ h => h) (Or.inl ⟨by rfl, ?_⟩) ?_ ?_
      rotate_left
      ·intro w'
       go_simp
       with_reducible rfl
      rotate_left
      ·simp only [Act.put, List.setIfInBounds_toArray, List.set_cons_zero, List.set_cons_succ, i64_w, i32_w]
       rfl
      refine pure_ (i := 18) (N := some 38) (v := ?_) (a' := ?_) #[true, true, true, true, true, true, true, true, true, true, true, true, true, true, true, true, true, true, true] rfl rfl (by kernel_rfl) (fun _ _ _ h => h) (Or.inl ⟨by rfl, ?_⟩) ?_ ?_
      rotate_left
      ·intro w'
       go_simp
       with_reducible rfl
      rotate_left
      ·simp only [Act.put, List.setIfInBounds_toArray, List.set_cons_zero, List.set_cons_succ, i64_w, i32_w]
       rfl
      refine done_ (by kernel_rfl) ?_
      go_wp2_with fail
      go_roundg (l0.length - (i + (m + 1)))
      case rel => exact ⟨m + 1, n + 1, by first | rfl | (rw [w2]; rfl), ⟨by have := q2.out; have := HZ.out; have := HM.out; omega⟩, HT2, ⟨Kd.R_drew W_2.out⟩, ⟨below_drew HB.out⟩⟩
      case measure => have := HM.out; omega
     ·have e5 : (y == x) = false := beq_eq_false_iff_ne.mpr hyx
      have e6 := eq_false hyx
      have HTM := Aside0.mk ((tw_step x r m HTW.out).2 (fun z hz => by rw [HY.out] at hz; injection hz with hz; rw [← hz]; exact hyx))
      clear hyx
      go_wp2_with fail
      refine start_ (n := 19) (S := fun w' => w'.cell? (ad.add i) = some (.int .i64 x) ∧ w'.cell? (ad.add z.toNat) = some (.int .i64 y)) (ds := []) #[false, false, false, false, false, false, false, false, false, false, false, false, false, false, false, false, false, false, false] (by kernel_rfl) rfl rfl ⟨hx0, hy0⟩ (fun hHeld => ?_)
      refine pure_ (i := 0) (N := some 20) (v := ?_) (a' := ?_) #[true, false, false, false, false, false, false, false, false, false, false, false, false, false, false, false, false, false, false] rfl rfl (by kernel_rfl) (fun _ _ _ h => h) (Or.inl ⟨by rfl, ?_⟩) ?_ ?_
      rotate_left
      ·intro w'
       go_simp
       with_reducible rfl
      rotate_left
      ·simp only [Act.put, List.setIfInBounds_toArray, List.set_cons_zero, List.set_cons_succ, i64_w, i32_w]
       rfl
      refine pure_ (i := 1) (N := some 21) (v := ?_) (a' := ?_) #[true, true, false, false, false, false, false, false, false, false, false, false, false, false, false, false, false, false, false] rfl rfl (by kernel_rfl) (fun _ _ _ h => h) (Or.inl ⟨by rfl, ?_⟩) ?_ ?_
      rotate_left
      ·intro w'
       go_simp
       with_reducible rfl
      rotate_left
      ·simp only [Act.put, List.setIfInBounds_toArray, List.set_cons_zero, List.set_cons_succ, i64_w, i32_w]
       rfl
      refine pure_ (i := 2) (N := some 22) (v := ?_) (a' := ?_) #[true, true, true, false, false, false, false, false, false, false, false, false, false, false, false, false, false, false, false] rfl rfl (by kernel_rfl) (fun _ _ _ h => h) (Or.inl ⟨by rfl, ?_⟩) ?_ ?_
      rotate_left
      ·intro w'
       go_simp
       with_reducible rfl
      rotate_left
      ·simp only [Act.put, List.setIfInBounds_toArray, List.set_cons_zero, List.set_cons_succ, i64_w, i32_w]
       rfl
      refine pure_ (i := 3) (N := some 23) (v := ?_) (a' := ?_) #[true, true, true, true, false, false, false, false, false, false, false, false, false, false, false, false, false, false, false] rfl rfl (by kernel_rfl) (fun _ _ _ h => h) (Or.inl ⟨by rfl, ?_⟩) ?_ ?_
      rotate_left
      ·intro w'
       go_simp
       with_reducible rfl
      rotate_left
      ·simp only [Act.put, List.setIfInBounds_toArray, List.set_cons_zero, List.set_cons_succ, i64_w, i32_w]
       rfl
      refine pure_ (i := 4) (N := some 24) (v := ?_) (a' := ?_) #[true, true, true, true, true, false, false, false, false, false, false, false, false, false, false, false, false, false, false] rfl rfl (by kernel_rfl) (fun _ _ _ h => h) (Or.inl ⟨by rfl, ?_⟩) ?_ ?_
      rotate_left
      ·intro w'
       go_simp
       with_reducible rfl
      rotate_left
      ·simp only [Act.put, List.setIfInBounds_toArray, List.set_cons_zero, List.set_cons_succ, i64_w, i32_w]
       rfl
      refine pure_ (i := 5) (N := some 25) (v := ?_) (a' := ?_) #[true, true, true, true, true, true, false, false, false, false, false, false, false, false, false, false, false, false, false] rfl rfl (by kernel_rfl) (fun _ _ _ h => h) (Or.inl ⟨by rfl, ?_⟩) ?_ ?_
      rotate_left
      ·intro w'
       go_simp
       with_reducible rfl
      rotate_left
      ·simp only [Act.put, List.setIfInBounds_toArray, List.set_cons_zero, List.set_cons_succ, i64_w, i32_w]
       rfl
      refine pure_ (i := 6) (N := some 26) (v := ?_) (a' := ?_) #[true, true, true, true, true, true, true, false, false, false, false, false, false, false, false, false, false, false, false] rfl rfl (by kernel_rfl) (fun _ _ _ h => h) (Or.inl ⟨by rfl, ?_⟩) ?_ ?_
      rotate_left
      ·intro w'
       go_simp
       with_reducible rfl
      rotate_left
      ·simp only [Act.put, List.setIfInBounds_toArray, List.set_cons_zero, List.set_cons_succ, i64_w, i32_w]
       rfl
      refine pure_ (i := 7) (N := some 27) (v := ?_) (a' := ?_) #[true, true, true, true, true, true, true, true, false, false, false, false, false, false, false, false, false, false, false] rfl rfl (by kernel_rfl) (fun _ _ _ h => h) (Or.inl ⟨by rfl, ?_⟩) ?_ ?_
      rotate_left
      ·intro w'
       go_simp
       with_reducible rfl
      rotate_left
      ·simp only [Act.put, List.setIfInBounds_toArray, List.set_cons_zero, List.set_cons_succ, i64_w, i32_w]
       rfl
      refine pure_ (i := 8) (N := some 28) (v := ?_) (a' := ?_) #[true, true, true, true, true, true, true, true, true, false, false, false, false, false, false, false, false, false, false] rfl rfl (by kernel_rfl) (fun _ _ _ h => h) (Or.inl ⟨by rfl, ?_⟩) ?_ ?_
      rotate_left
      ·intro w'
       go_simp
       with_reducible rfl
      rotate_left
      ·simp only [Act.put, List.setIfInBounds_toArray, List.set_cons_zero, List.set_cons_succ, i64_w, i32_w]
       rfl
      refine pure_ (i := 9) (N := some 29) (v := ?_) (a' := ?_) #[true, true, true, true, true, true, true, true, true, true, false, false, false, false, false, false, false, false, false] rfl rfl (by kernel_rfl) (fun _ _ _ h => h) (Or.inl ⟨by rfl, ?_⟩) ?_ ?_
      rotate_left
      ·intro w'
       go_simp
       with_reducible rfl
      rotate_left
      ·simp only [Act.put, List.setIfInBounds_toArray, List.set_cons_zero, List.set_cons_succ, i64_w, i32_w]
       rfl
      refine pure_ (i := 10) (N := some 30) (v := ?_) (a' := ?_) #[true, true, true, true, true, true, true, true, true, true, true, false, false, false, false, false, false, false, false] rfl rfl (by kernel_rfl) (fun _ _ _ h => h) (Or.inl ⟨by rfl, ?_⟩) ?_ ?_
      rotate_left
      ·intro w'
       go_simp
       with_reducible rfl
      rotate_left
      ·simp only [Act.put, List.setIfInBounds_toArray, List.set_cons_zero, List.set_cons_succ, i64_w, i32_w]
       rfl
      refine pure_ (i := 11) (N := some 31) (v := ?_) (a' := ?_) #[true, true, true, true, true, true, true, true, true, true, true, true, false, false, false, false, false, false, false] rfl rfl (by kernel_rfl) (fun _ _ _ h => h) (Or.inl ⟨by rfl, ?_⟩) ?_ ?_
      rotate_left
      ·intro w'
       go_simp
       with_reducible rfl
      rotate_left
      ·simp only [Act.put, List.setIfInBounds_toArray, List.set_cons_zero, List.set_cons_succ, i64_w, i32_w]
       rfl
      refine pure_ (i := 13) (N := some 33) (v := ?_) (a' := ?_) #[true, true, true, true, true, true, true, true, true, true, true, true, false, true, false, false, false, false, false] rfl rfl (by kernel_rfl) (fun _ _ _ h => h) (Or.inl ⟨by rfl, ?_⟩) ?_ ?_
      rotate_left
      ·intro w'
       go_simp
       with_reducible rfl
      rotate_left
      ·simp only [Act.put, List.setIfInBounds_toArray, List.set_cons_zero, List.set_cons_succ, i64_w, i32_w]
       rfl
      refine pure_ (i := 14) (N := some 34) (v := ?_) (a' := ?_) #[true, true, true, true, true, true, true, true, true, true, true, true, false, true, true, false, false, false, false] rfl rfl (by kernel_rfl) (fun _ _ _ h => h) (Or.inl ⟨by rfl, ?_⟩) ?_ ?_
      rotate_left
      ·intro w'
       go_simp
       with_reducible rfl
      rotate_left
      ·simp only [Act.put, List.setIfInBounds_toArray, List.set_cons_zero, List.set_cons_succ, i64_w, i32_w]
       rfl
      refine pure_ (i := 15) (N := some 35) (v := ?_) (a' := ?_) #[true, true, true, true, true, true, true, true, true, true, true, true, false, true, true, true, false, false, false] rfl rfl (by kernel_rfl) (fun _ _ _ h => h) (Or.inl ⟨by rfl, ?_⟩) ?_ ?_
      rotate_left
      ·intro w'
       go_simp
       with_reducible rfl
      rotate_left
      ·simp only [Act.put, List.setIfInBounds_toArray, List.set_cons_zero, List.set_cons_succ, i64_w, i32_w]
       rfl
      refine take_ (i := 12) (N := some 32) (v := ?_) (a' := ?_) #[true, true, true, true, true, true, true, true, true, true, true, true, true, true, true, true, false, false, false] rfl rfl (by kernel_rfl) (fun _ _ _ h => h) (Or.inl ⟨by rfl, ?_⟩) hHeld ?_ ?_
      rotate_left
      ·rintro w' ⟨s0, s1⟩
       go_simp
       with_reducible rfl
      rotate_left
      ·simp only [Act.put, List.setIfInBounds_toArray, List.set_cons_zero, List.set_cons_succ, i64_w, i32_w]
       rfl
      refine take_ (i := 16) (N := some 36) (v := ?_) (a' := ?_) #[true, true, true, true, true, true, true, true, true, true, true, true, true, true, true, true, true, false, false] rfl rfl (by kernel_rfl) (fun _ _ _ h => h) (Or.inl ⟨by rfl, ?_⟩) hHeld ?_ ?_
      rotate_left
      ·rintro w' ⟨s0, s1⟩
       go_simp
       with_reducible rfl
      rotate_left
      ·simp only [Act.put, List.setIfInBounds_toArray, List.set_cons_zero, List.set_cons_succ, i64_w, i32_w]
       rfl
      refine pure_ (i := 17) (N := some 37) (v := ?_) (a' := ?_) #[true, true, true, true, true, true, true, true, true, true, true, true, true, true, true, true, true, true, false] rfl rfl (by kernel_rfl) (fun _ _ _ h => h) (Or.inl ⟨by rfl, ?_⟩) ?_ ?_
      rotate_left
      ·intro w'
       go_simp
       with_reducible rfl
      rotate_left
      ·simp only [Act.put, List.setIfInBounds_toArray, List.set_cons_zero, List.set_cons_succ, i64_w, i32_w]
       rfl
      refine pure_ (i := 18) (N := some 38) (v := ?_) (a' := ?_) #[true, true, true, true, true, true, true, true, true, true, true, true, true, true, true, true, true, true, true] rfl rfl (by kernel_rfl) (fun _ _ _ h => h) (Or.inl ⟨by rfl, ?_⟩) ?_ ?_
      rotate_left
      ·intro w'
       go_simp
       with_reducible rfl
      rotate_left
      ·simp only [Act.put, List.setIfInBounds_toArray, List.set_cons_zero, List.set_cons_succ, i64_w, i32_w]
       rfl
      refine done_ (by kernel_rfl) ?_
      have pI : i < l0.length := q1.out
      go_wp2_with fail
      refine (itoaG.calls x (itB x) _ (itoaG_eq (show I64 x from ⟨by have := HXP.out; omega, by have := HXP.out; omega⟩)) HT.out (below_drew HB.out)).mono ?_
      rintro e_ w5 ⟨rfl, hb⟩
      have W_4 := Aside0.mk (Kd.R_below (Kd.R_drew W_2.out) hb)
      have HB4 := Aside0.mk (below_step (below_drew HB.out) hb)
      clear hb W_2 HB
      by_cases hm : n = 1
      ·subst hm
       have z1 : decide (((1 : Nat) : Int) > 1) = false := by decide
       have w1b : wrap64 ((i : Int) + 1) = z := w1
       have HPB := Aside0.mk (show itB x = pickB (x, m + 1) by rw [← HM.out.1]; exact pick_one HXP.out.1)
       go_wp2_with (first | ((with_reducible refine gate_builtin (b := .append) (xs := #[.tmp 53, .tmp 55]) rfl ?_); at_builtin; refine Kd.R_append Kd.string (w0 := w) w.heap.size rfl (.tmp 53) (.tmp 55) 55 9 (.string ⟨#[]⟩) 16 rfl Tryd.underlying55 infS rfl (by decide) (by omega) u xs (itB x) [.string (itB x)] (fun _ => True) (fun _ => False) rfl rfl ?aP (fun _ hk => hk.elim) (fun _ _ => trivial) W_4.out HB4.out ?aS ?aL ?_; (case aP => rfl); (case aS => exact HB4.out.size); (case aL => have := HXL.out; have := HL.out; have := q1.out; omega); intro v1 w8 ho hb hg hat; have W_6 := Aside0.mk ho; have HB6 := Aside0.mk hb; clear ho hb hg hat W_4 HB4))
       rw [HPB.out] at W_6
       go_roundg (l0.length - (i + (m + 1)))
       case rel => exact ⟨i + (m + 1), xs ++ [pickB (x, m + 1)], _, rfl, by (first | rw [w1] | rw [w1b] | skip); exact congrArg (Value.int .i64) (by have := HZ.out; have := HM.out; omega), ⟨by have := HM.out; omega⟩, ⟨picks_step HXR.out HTM.out HGS.out⟩, ⟨by have := HXL.out; simp only [List.length_append, List.length_cons, List.length_nil]; omega⟩, W_6, HB6⟩
       case measure => have := HK.out; have := q1.out; omega
      ·have z1 : decide ((n : Int) > 1) = true := decide_eq_true (by have := HM.out; omega)
       have z2 := eq_true (show ((n : Int) > 1) by have := HM.out; omega)
       have z3 := eq_true (show 1 < n by have := HM.out; omega)
       have g1 : (itB (n : Int)).size ≤ 21 := by have := itB_len (n : Int) ⟨by have := HM.out; omega, by have := HM.out; have := HL.out; omega⟩; rw [Array.length_toList] at this; exact this
       have g2 : (itB x).size ≤ 21 := by have := itB_len x ⟨by have := HXP.out; omega, by have := HXP.out; omega⟩; rw [Array.length_toList] at this; exact this
       have z5 := eq_false (show ¬ 9223372036854775807 < 1 + (itB (n : Int)).size by omega)
       have z6 := eq_false (show ¬ 9223372036854775807 < (itB x).size + (1 + (itB (n : Int)).size) by omega)
       clear g1 g2
       have HPB := Aside0.mk (show itB x ++ ((⟨#[42]⟩ : ByteArray) ++ itB (n : Int)) = pickB (x, m + 1) by rw [← HM.out.1]; exact pick_more HXP.out.1 (by have := HM.out; omega))
       clear hm
       go_wp2_with fail
       refine (itoaG.calls (n : Int) (itB (n : Int)) _ (itoaG_eq (show I64 (n : Int) from ⟨by have := HM.out; omega, by have := HM.out; have := HL.out; omega⟩)) HT.out HB4.out).mono ?_
       rintro e_ w6 ⟨rfl, hb⟩
       have W_5 := Aside0.mk (Kd.R_below W_4.out hb)
       have HB5 := Aside0.mk (below_step HB4.out hb)
       clear hb W_4 HB4
       go_wp2_with (first | ((with_reducible refine gate_builtin (b := .append) (xs := #[.tmp 53, .tmp 55]) rfl ?_); at_builtin; refine Kd.R_append Kd.string (w0 := w) w.heap.size rfl (.tmp 53) (.tmp 55) 55 9 (.string ⟨#[]⟩) 16 rfl Tryd.underlying55 infS rfl (by decide) (by omega) u xs (itB x ++ ((⟨#[42]⟩ : ByteArray) ++ itB (n : Int))) [.string (itB x ++ ((⟨#[42]⟩ : ByteArray) ++ itB (n : Int)))] (fun _ => True) (fun _ => False) rfl rfl ?aP (fun _ hk => hk.elim) (fun _ _ => trivial) W_5.out HB5.out ?aS ?aL ?_; (case aP => rfl); (case aS => exact HB5.out.size); (case aL => have := HXL.out; have := HL.out; have := q1.out; omega); intro v1 w8 ho hb hg hat; have W_6 := Aside0.mk ho; have HB6 := Aside0.mk hb; clear ho hb hg hat W_5 HB5))
       rw [HPB.out] at W_6
       go_roundg (l0.length - (i + (m + 1)))
       case rel => exact ⟨i + (m + 1), xs ++ [pickB (x, m + 1)], _, rfl, by (first | rw [w1] | rw [w1b] | skip); exact congrArg (Value.int .i64) (by have := HZ.out; have := HM.out; omega), ⟨by have := HM.out; omega⟩, ⟨picks_step HXR.out HTM.out HGS.out⟩, ⟨by have := HXL.out; simp only [List.length_append, List.length_cons, List.length_nil]; omega⟩, W_6, HB6⟩
       case measure => have := HK.out; have := q1.out; omega
    ·have b1 : decide (z < (l0.length : Int)) = false := decide_eq_false hn
     have b2 := eq_false hn
     have HTM := Aside0.mk ((tw_step x r m HTW.out).2 (fun z hz => by
      have h6 := (List.getElem?_eq_some_iff.1 hz).1
      have := HRL.out
      have := HZ.out
      have := HM.out
      omega))
     clear hn
     go_wp2_with fail
     refine start_ (n := 19) (S := fun w' => w'.cell? (ad.add i) = some (.int .i64 x)) (ds := []) #[false, false, false, false, false, false, false, false, false, false, false, false, false, false, false, false, false, false, false] (by kernel_rfl) rfl rfl (hx0) (fun hHeld => ?_)
     refine pure_ (i := 0) (N := some 20) (v := ?_) (a' := ?_) #[true, false, false, false, false, false, false, false, false, false, false, false, false, false, false, false, false, false, false] rfl rfl (by kernel_rfl) (fun _ _ _ h => h) (Or.inl ⟨by rfl, ?_⟩) ?_ ?_
     rotate_left
     ·intro w'
      go_simp
      with_reducible rfl
     rotate_left
     ·simp only [Act.put, List.setIfInBounds_toArray, List.set_cons_zero, List.set_cons_succ, i64_w, i32_w]
      rfl
     refine pure_ (i := 1) (N := some 21) (v := ?_) (a' := ?_) #[true, true, false, false, false, false, false, false, false, false, false, false, false, false, false, false, false, false, false] rfl rfl (by kernel_rfl) (fun _ _ _ h => h) (Or.inl ⟨by rfl, ?_⟩) ?_ ?_
     rotate_left
     ·intro w'
      go_simp
      with_reducible rfl
     rotate_left
     ·simp only [Act.put, List.setIfInBounds_toArray, List.set_cons_zero, List.set_cons_succ, i64_w, i32_w]
      rfl
     refine pure_ (i := 2) (N := some 22) (v := ?_) (a' := ?_) #[true, true, true, false, false, false, false, false, false, false, false, false, false, false, false, false, false, false, false] rfl rfl (by kernel_rfl) (fun _ _ _ h => h) (Or.inl ⟨by rfl, ?_⟩) ?_ ?_
     rotate_left
     ·intro w'
      go_simp
      with_reducible rfl
     rotate_left
     ·simp only [Act.put, List.setIfInBounds_toArray, List.set_cons_zero, List.set_cons_succ, i64_w, i32_w]
      rfl
     refine pure_ (i := 3) (N := some 23) (v := ?_) (a' := ?_) #[true, true, true, true, false, false, false, false, false, false, false, false, false, false, false, false, false, false, false] rfl rfl (by kernel_rfl) (fun _ _ _ h => h) (Or.inl ⟨by rfl, ?_⟩) ?_ ?_
     rotate_left
     ·intro w'
      go_simp
      with_reducible rfl
     rotate_left
     ·simp only [Act.put, List.setIfInBounds_toArray, List.set_cons_zero, List.set_cons_succ, i64_w, i32_w]
      rfl
     refine pure_ (i := 4) (N := some 24) (v := ?_) (a' := ?_) #[true, true, true, true, true, false, false, false, false, false, false, false, false, false, false, false, false, false, false] rfl rfl (by kernel_rfl) (fun _ _ _ h => h) (Or.inl ⟨by rfl, ?_⟩) ?_ ?_
     rotate_left
     ·intro w'
      go_simp
      with_reducible rfl
     rotate_left
     ·simp only [Act.put, List.setIfInBounds_toArray, List.set_cons_zero, List.set_cons_succ, i64_w, i32_w]
      rfl
     refine pure_ (i := 5) (N := some 25) (v := ?_) (a' := ?_) #[true, true, true, true, true, true, false, false, false, false, false, false, false, false, false, false, false, false, false] rfl rfl (by kernel_rfl) (fun _ _ _ h => h) (Or.inl ⟨by rfl, ?_⟩) ?_ ?_
     rotate_left
     ·intro w'
      go_simp
      with_reducible rfl
     rotate_left
     ·simp only [Act.put, List.setIfInBounds_toArray, List.set_cons_zero, List.set_cons_succ, i64_w, i32_w]
      rfl
     refine pure_ (i := 6) (N := some 26) (v := ?_) (a' := ?_) #[true, true, true, true, true, true, true, false, false, false, false, false, false, false, false, false, false, false, false] rfl rfl (by kernel_rfl) (fun _ _ _ h => h) (Or.inl ⟨by rfl, ?_⟩) ?_ ?_
     rotate_left
     ·intro w'
      go_simp
      with_reducible rfl
     rotate_left
     ·simp only [Act.put, List.setIfInBounds_toArray, List.set_cons_zero, List.set_cons_succ, i64_w, i32_w]
      rfl
     refine pure_ (i := 7) (N := some 27) (v := undef) (a' := ?_) #[true, true, true, true, true, true, true, true, false, false, false, false, false, false, false, false, false, false, false] rfl rfl (by kernel_rfl) (fun _ _ _ h => h) (Or.inr ⟨by rfl, rfl⟩) ?_ ?_
     rotate_left
     ·simp only [Act.put, List.setIfInBounds_toArray, List.set_cons_zero, List.set_cons_succ, i64_w, i32_w]
      rfl
     refine pure_ (i := 8) (N := some 28) (v := undef) (a' := ?_) #[true, true, true, true, true, true, true, true, true, false, false, false, false, false, false, false, false, false, false] rfl rfl (by kernel_rfl) (fun _ _ _ h => h) (Or.inr ⟨by rfl, rfl⟩) ?_ ?_
     rotate_left
     ·simp only [Act.put, List.setIfInBounds_toArray, List.set_cons_zero, List.set_cons_succ, i64_w, i32_w]
      rfl
     refine pure_ (i := 9) (N := some 29) (v := undef) (a' := ?_) #[true, true, true, true, true, true, true, true, true, true, false, false, false, false, false, false, false, false, false] rfl rfl (by kernel_rfl) (fun _ _ _ h => h) (Or.inr ⟨by rfl, rfl⟩) ?_ ?_
     rotate_left
     ·simp only [Act.put, List.setIfInBounds_toArray, List.set_cons_zero, List.set_cons_succ, i64_w, i32_w]
      rfl
     refine pure_ (i := 10) (N := some 30) (v := undef) (a' := ?_) #[true, true, true, true, true, true, true, true, true, true, true, false, false, false, false, false, false, false, false] rfl rfl (by kernel_rfl) (fun _ _ _ h => h) (Or.inr ⟨by rfl, rfl⟩) ?_ ?_
     rotate_left
     ·simp only [Act.put, List.setIfInBounds_toArray, List.set_cons_zero, List.set_cons_succ, i64_w, i32_w]
      rfl
     refine pure_ (i := 11) (N := some 31) (v := undef) (a' := ?_) #[true, true, true, true, true, true, true, true, true, true, true, true, false, false, false, false, false, false, false] rfl rfl (by kernel_rfl) (fun _ _ _ h => h) (Or.inr ⟨by rfl, rfl⟩) ?_ ?_
     rotate_left
     ·simp only [Act.put, List.setIfInBounds_toArray, List.set_cons_zero, List.set_cons_succ, i64_w, i32_w]
      rfl
     refine pure_ (i := 12) (N := some 32) (v := undef) (a' := ?_) #[true, true, true, true, true, true, true, true, true, true, true, true, true, false, false, false, false, false, false] rfl rfl (by kernel_rfl) (fun _ _ _ h => h) (Or.inr ⟨by rfl, rfl⟩) ?_ ?_
     rotate_left
     ·simp only [Act.put, List.setIfInBounds_toArray, List.set_cons_zero, List.set_cons_succ, i64_w, i32_w]
      rfl
     refine pure_ (i := 13) (N := some 33) (v := undef) (a' := ?_) #[true, true, true, true, true, true, true, true, true, true, true, true, true, true, false, false, false, false, false] rfl rfl (by kernel_rfl) (fun _ _ _ h => h) (Or.inr ⟨by rfl, rfl⟩) ?_ ?_
     rotate_left
     ·simp only [Act.put, List.setIfInBounds_toArray, List.set_cons_zero, List.set_cons_succ, i64_w, i32_w]
      rfl
     refine pure_ (i := 14) (N := some 34) (v := undef) (a' := ?_) #[true, true, true, true, true, true, true, true, true, true, true, true, true, true, true, false, false, false, false] rfl rfl (by kernel_rfl) (fun _ _ _ h => h) (Or.inr ⟨by rfl, rfl⟩) ?_ ?_
     rotate_left
     ·simp only [Act.put, List.setIfInBounds_toArray, List.set_cons_zero, List.set_cons_succ, i64_w, i32_w]
      rfl
     refine pure_ (i := 15) (N := some 35) (v := undef) (a' := ?_) #[true, true, true, true, true, true, true, true, true, true, true, true, true, true, true, true, false, false, false] rfl rfl (by kernel_rfl) (fun _ _ _ h => h) (Or.inr ⟨by rfl, rfl⟩) ?_ ?_
     rotate_left
     ·simp only [Act.put, List.setIfInBounds_toArray, List.set_cons_zero, List.set_cons_succ, i64_w, i32_w]
      rfl
     refine pure_ (i := 16) (N := some 36) (v := undef) (a' := ?_) #[true, true, true, true, true, true, true, true, true, true, true, true, true, true, true, true, true, false, false] rfl rfl (by kernel_rfl) (fun _ _ _ h => h) (Or.inr ⟨by rfl, rfl⟩) ?_ ?_
     rotate_left
     ·simp only [Act.put, List.setIfInBounds_toArray, List.set_cons_zero, List.set_cons_succ, i64_w, i32_w]
      rfl
     refine pure_ (i := 17) (N := some 37) (v := undef) (a' := ?_) #[true, true, true, true, true, true, true, true, true, true, true, true, true, true, true, true, true, true, false] rfl rfl (by kernel_rfl) (fun _ _ _ h => h) (Or.inr ⟨by rfl, rfl⟩) ?_ ?_
     rotate_left
     ·simp only [Act.put, List.setIfInBounds_toArray, List.set_cons_zero, List.set_cons_succ, i64_w, i32_w]
      rfl
     refine pure_ (i := 18) (N := some 38) (v := ?_) (a' := ?_) #[true, true, true, true, true, true, true, true, true, true, true, true, true, true, true, true, true, true, true] rfl rfl (by kernel_rfl) (fun _ _ _ h => h) (Or.inl ⟨by rfl, ?_⟩) ?_ ?_
     rotate_left
     ·intro w'
      go_simp
      with_reducible rfl
     rotate_left
     ·simp only [Act.put, List.setIfInBounds_toArray, List.set_cons_zero, List.set_cons_succ, i64_w, i32_w]
      rfl
     refine done_ (by kernel_rfl) ?_
     have pI : i < l0.length := q1.out
     go_wp2_with fail
     refine (itoaG.calls x (itB x) _ (itoaG_eq (show I64 x from ⟨by have := HXP.out; omega, by have := HXP.out; omega⟩)) HT.out (below_drew HB.out)).mono ?_
     rintro e_ w5 ⟨rfl, hb⟩
     have W_4 := Aside0.mk (Kd.R_below (Kd.R_drew W_2.out) hb)
     have HB4 := Aside0.mk (below_step (below_drew HB.out) hb)
     clear hb W_2 HB
     by_cases hm : n = 1
     ·subst hm
      have z1 : decide (((1 : Nat) : Int) > 1) = false := by decide
      have w1b : wrap64 ((i : Int) + 1) = z := w1
      have HPB := Aside0.mk (show itB x = pickB (x, m + 1) by rw [← HM.out.1]; exact pick_one HXP.out.1)
      go_wp2_with (first | ((with_reducible refine gate_builtin (b := .append) (xs := #[.tmp 53, .tmp 55]) rfl ?_); at_builtin; refine Kd.R_append Kd.string (w0 := w) w.heap.size rfl (.tmp 53) (.tmp 55) 55 9 (.string ⟨#[]⟩) 16 rfl Tryd.underlying55 infS rfl (by decide) (by omega) u xs (itB x) [.string (itB x)] (fun _ => True) (fun _ => False) rfl rfl ?aP (fun _ hk => hk.elim) (fun _ _ => trivial) W_4.out HB4.out ?aS ?aL ?_; (case aP => rfl); (case aS => exact HB4.out.size); (case aL => have := HXL.out; have := HL.out; have := q1.out; omega); intro v1 w8 ho hb hg hat; have W_6 := Aside0.mk ho; have HB6 := Aside0.mk hb; clear ho hb hg hat W_4 HB4))
      rw [HPB.out] at W_6
      go_roundg (l0.length - (i + (m + 1)))
      case rel => exact ⟨i + (m + 1), xs ++ [pickB (x, m + 1)], _, rfl, by (first | rw [w1] | rw [w1b] | skip); exact congrArg (Value.int .i64) (by have := HZ.out; have := HM.out; omega), ⟨by have := HM.out; omega⟩, ⟨picks_step HXR.out HTM.out HGS.out⟩, ⟨by have := HXL.out; simp only [List.length_append, List.length_cons, List.length_nil]; omega⟩, W_6, HB6⟩
      case measure => have := HK.out; have := q1.out; omega
     ·have z1 : decide ((n : Int) > 1) = true := decide_eq_true (by have := HM.out; omega)
      have z2 := eq_true (show ((n : Int) > 1) by have := HM.out; omega)
      have z3 := eq_true (show 1 < n by have := HM.out; omega)
      have g1 : (itB (n : Int)).size ≤ 21 := by have := itB_len (n : Int) ⟨by have := HM.out; omega, by have := HM.out; have := HL.out; omega⟩; rw [Array.length_toList] at this; exact this
      have g2 : (itB x).size ≤ 21 := by have := itB_len x ⟨by have := HXP.out; omega, by have := HXP.out; omega⟩; rw [Array.length_toList] at this; exact this
      have z5 := eq_false (show ¬ 9223372036854775807 < 1 + (itB (n : Int)).size by omega)
      have z6 := eq_false (show ¬ 9223372036854775807 < (itB x).size + (1 + (itB (n : Int)).size) by omega)
      clear g1 g2
      have HPB := Aside0.mk (show itB x ++ ((⟨#[42]⟩ : ByteArray) ++ itB (n : Int)) = pickB (x, m + 1) by rw [← HM.out.1]; exact pick_more HXP.out.1 (by have := HM.out; omega))
      clear hm
      go_wp2_with fail
      refine (itoaG.calls (n : Int) (itB (n : Int)) _ (itoaG_eq (show I64 (n : Int) from ⟨by have := HM.out; omega, by have := HM.out; have := HL.out; omega⟩)) HT.out HB4.out).mono ?_
      rintro e_ w6 ⟨rfl, hb⟩
      have W_5 := Aside0.mk (Kd.R_below W_4.out hb)
      have HB5 := Aside0.mk (below_step HB4.out hb)
      clear hb W_4 HB4
      go_wp2_with (first | ((with_reducible refine gate_builtin (b := .append) (xs := #[.tmp 53, .tmp 55]) rfl ?_); at_builtin; refine Kd.R_append Kd.string (w0 := w) w.heap.size rfl (.tmp 53) (.tmp 55) 55 9 (.string ⟨#[]⟩) 16 rfl Tryd.underlying55 infS rfl (by decide) (by omega) u xs (itB x ++ ((⟨#[42]⟩ : ByteArray) ++ itB (n : Int))) [.string (itB x ++ ((⟨#[42]⟩ : ByteArray) ++ itB (n : Int)))] (fun _ => True) (fun _ => False) rfl rfl ?aP (fun _ hk => hk.elim) (fun _ _ => trivial) W_5.out HB5.out ?aS ?aL ?_; (case aP => rfl); (case aS => exact HB5.out.size); (case aL => have := HXL.out; have := HL.out; have := q1.out; omega); intro v1 w8 ho hb hg hat; have W_6 := Aside0.mk ho; have HB6 := Aside0.mk hb; clear ho hb hg hat W_5 HB5))
      rw [HPB.out] at W_6
      go_roundg (l0.length - (i + (m + 1)))
      case rel => exact ⟨i + (m + 1), xs ++ [pickB (x, m + 1)], _, rfl, by (first | rw [w1] | rw [w1b] | skip); exact congrArg (Value.int .i64) (by have := HZ.out; have := HM.out; omega), ⟨by have := HM.out; omega⟩, ⟨picks_step HXR.out HTM.out HGS.out⟩, ⟨by have := HXL.out; simp only [List.length_append, List.length_cons, List.length_nil]; omega⟩, W_6, HB6⟩
      case measure => have := HK.out; have := q1.out; omega
  ·have e0 : decide ((i : Int) < (l0.length : Int)) = false := decide_eq_false (by omega)
   have e1 := eq_false hi
   have HXG := Aside0.mk (show xs = G by
    have := HGS.out
    rw [List.drop_of_length_le (by omega), runs_nil] at this
    simpa using this)
   clear hi
   obtain ⟨AW, cW, eW, hcW, hCW⟩ := Kd.R_reads W_2.out
   subst eW
   have hj := tale_join.calls AW cW xs _ wr hCW hcW (join_f (by rw [HXG.out, HG.out]; exact picksL_len l0 HL.out) (by rw [HXG.out, HG.out]; exact picksL_words l0 HL.out HP.out))
   rw [HXG.out] at hj
   rw [HXG.out]
   clear hCW hcW W_2
   go_wp2_with fail
   refine hj.mono ?_
   rintro e_ w11 ⟨rfl, hb⟩
   have B901 := Aside0.mk (below_step HB.out hb)
   clear hb hj HB
   go_wp2_with fail
   go_ret2
   exact ⟨rfl, B901.out⟩
end Go.Proofs.YtinmmnljicmppaaDoor.PTaleApart
namespace Go.Proofs.YtinmmnljicmppaaDoor.PTaleApart
open Go Go.RowKit Go.Proofs.YtinmmnljicmppaaDoorW.PrintWords Go.Proofs.YtinmmnljicmppaaDoorW.PrintLast Go.Proofs.YtinmmnljicmppaaDoorW.PrintMore Go.Proofs.YtinmmnljicmppaaDoor.Str
set_option linter.unusedVariables false
def tale_Picks.f (l : List Int) : Option (ByteArray × Int) := some (picksV l)
theorem tale_Picks.calls (A0 : Option Addr) (c0 : Nat) (l0 : List Int) (r1 : ByteArray) (r2 : Int) (w : World) (hr0 : Kd.C (Kd.int .i64) w A0 l0.length l0) (hc0 : l0.length ≤ c0) (h : tale_Picks.f l0 = some (r1, r2)) {w0 : World} (ht0 : WT w0) (hb0 : Below w0.heap.size w0 w) :
  Calls Tryd.prog 10 #[.slice A0 l0.length c0] w fun e w' => e = .returned (.tuple #[.string r1, .int .i64 r2]) ∧ Below w.heap.size w w' := by
 have h2 : picksV l0 = (r1, r2) := Option.some.inj h
 have := picks_T A0 c0 l0 w hr0 hc0 (ht0.below hb0)
 rw [h2] at this
 exact this
end Go.Proofs.YtinmmnljicmppaaDoor.PTaleApart
