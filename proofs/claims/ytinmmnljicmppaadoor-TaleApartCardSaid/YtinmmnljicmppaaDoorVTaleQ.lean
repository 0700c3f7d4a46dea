import Derived.Test.YtinmmnljicmppaaDoorVTaleP
/-
The reader's line.
-/
namespace Go.Proofs.YtinmmnljicmppaaDoor.PTaleApart
open Go Go.RowKit Go.Proofs.YtinmmnljicmppaaDoorW.PrintWords Go.Proofs.YtinmmnljicmppaaDoorW.PrintLast Go.Proofs.YtinmmnljicmppaaDoorW.PrintMore Go.Proofs.YtinmmnljicmppaaDoor.Str
attribute [local go_sem] max2_int min2_int max_two min_two max_three min_three max_four min_four
set_option linter.unusedVariables false
set_option linter.unusedSimpArgs false
set_option maxHeartbeats 64000000 in
set_option maxRecDepth 100000 in
theorem line0_T (a b c d e : Int) (l0 : List (List S33)) (pk : List Int) (fl dn : Bool) (line : ByteArray) (hs : line.size ≤ 2000000000) (B g : Nat) (w : World) (hW : RdW w B g ⟨a, b, c, d, e, l0, pk, fl, dn⟩) (hg : B ≤ g) (ht : WT w) (h0 : a = 0) (q0 q1 q2 q3 q4 q5 : Int) (hq : readConfV line = ((q0, q1, q2, q3, q4), q5)) :
  Calls Tryd.prog 30 #[.pointer (some ⟨g, 0, none⟩), .string line] w fun e_ w' => e_ = .returned (.bool (q5 == 0)) ∧ RdW w' B g ⟨q0, q1, q2, q3, q4, l0, pk, fl, dn⟩ ∧ Below B w w' := by
 obtain ⟨ov, pv, hG, hS, hR⟩ := hW
 simp only at hG hS hR
 subst h0
 have hu1 := Tryd.underlying67
 have hu2 := Tryd.underlying47
 have hu3 := Tryd.underlying31
 have hc := tale_ReadConf.calls 100 line q0 q1 q2 q3 q4 q5 w (by rw [readConf_f line (by omega) (by decide), hq]) ht (Below.refl _ _)
 have HGE := Aside0.mk hg
 have HBW := Aside0.mk (show B ≤ w.heap.size by have := blk_lt hG; omega)
 have HG := Aside0.mk hG
 have HS := Aside0.mk hS
 have HR := Aside0.mk hR
 have c0 : w.cell? ⟨g, 0, none⟩ = some (.int .i64 0) := (blk_cell HG.out 0).trans rfl
 clear hG hS hg hR ht hq
 go_enter Tryd.func30, Tryd.ntmps30
 go_wp2_with fail
 refine hc.mono ?_
 rintro e_ w1 ⟨rfl, hb⟩
 have HG1 := Aside0.mk (blk_below HG.out hb)
 have HS1 := Aside0.mk (Kd.S_below HS.out hb)
 have HR1 := Aside0.mk (Kd.R_below HR.out hb)
 have HB1 := Aside0.mk (below_mono hb HBW.out)
 have HL1 := Aside0.mk (show B ≤ w1.heap.size by have := blk_lt HG1.out; have := HGE.out; omega)
 clear hb hc HG HS HR c0
 have c0 : ∀ o, (w1.alloc o).cell? ⟨g, 0, none⟩ = some (.int .i64 0) := fun o => (blk_cell (blk_alloc HG1.out o) 0).trans rfl
 have f0 : ∀ o, (w1.alloc o).frozen? ⟨g, 0, none⟩ = false := fun o => blk_frozen (blk_alloc HG1.out o) 0
 have c1 : ∀ o, (w1.alloc o).cell? ⟨g, 1, none⟩ = some (.int .i64 b) := fun o => (blk_cell (blk_alloc HG1.out o) 1).trans rfl
 have f1 : ∀ o, (w1.alloc o).frozen? ⟨g, 1, none⟩ = false := fun o => blk_frozen (blk_alloc HG1.out o) 1
 have c2 : ∀ o, (w1.alloc o).cell? ⟨g, 2, none⟩ = some (.int .i64 c) := fun o => (blk_cell (blk_alloc HG1.out o) 2).trans rfl
 have f2 : ∀ o, (w1.alloc o).frozen? ⟨g, 2, none⟩ = false := fun o => blk_frozen (blk_alloc HG1.out o) 2
 have c3 : ∀ o, (w1.alloc o).cell? ⟨g, 3, none⟩ = some (.int .i64 d) := fun o => (blk_cell (blk_alloc HG1.out o) 3).trans rfl
 have f3 : ∀ o, (w1.alloc o).frozen? ⟨g, 3, none⟩ = false := fun o => blk_frozen (blk_alloc HG1.out o) 3
 have c4 : ∀ o, (w1.alloc o).cell? ⟨g, 4, none⟩ = some (.int .i64 e) := fun o => (blk_cell (blk_alloc HG1.out o) 4).trans rfl
 have f4 : ∀ o, (w1.alloc o).frozen? ⟨g, 4, none⟩ = false := fun o => blk_frozen (blk_alloc HG1.out o) 4
 have hgn : ∀ (i j : Nat), (⟨g, i, none⟩ : Addr) ≠ ⟨w1.heap.size, j, none⟩ := fun i j h => by injection h with h _; exact absurd (blk_lt HG1.out) (by omega)
 have hne := Nat.ne_of_lt (blk_lt HG1.out)
 go_wp2_with fail
 go_ret
 exact ⟨rfl, ⟨_, _, (blk_set (blk_set (blk_set (blk_set (blk_set (blk_alloc HG1.out (.cells #[.int .i64 q0, .int .i64 q1, .int .i64 q2, .int .i64 q3, .int .i64 q4] 31)) 0 (.int .i64 q0)) 1 (.int .i64 q1)) 2 (.int .i64 q2)) 3 (.int .i64 q3)) 4 (.int .i64 q4)), (Kd.S_set (Kd.S_set (Kd.S_set (Kd.S_set (Kd.S_set (Kd.S_alloc HS1.out (.cells #[.int .i64 q0, .int .i64 q1, .int .i64 q2, .int .i64 q3, .int .i64 q4] 31)) (blk_alloc HG1.out (.cells #[.int .i64 q0, .int .i64 q1, .int .i64 q2, .int .i64 q3, .int .i64 q4] 31)) ops_ne 0 (.int .i64 q0)) (blk_set (blk_alloc HG1.out (.cells #[.int .i64 q0, .int .i64 q1, .int .i64 q2, .int .i64 q3, .int .i64 q4] 31)) 0 (.int .i64 q0)) ops_ne 1 (.int .i64 q1)) (blk_set (blk_set (blk_alloc HG1.out (.cells #[.int .i64 q0, .int .i64 q1, .int .i64 q2, .int .i64 q3, .int .i64 q4] 31)) 0 (.int .i64 q0)) 1 (.int .i64 q1)) ops_ne 2 (.int .i64 q2)) (blk_set (blk_set (blk_set (blk_alloc HG1.out (.cells #[.int .i64 q0, .int .i64 q1, .int .i64 q2, .int .i64 q3, .int .i64 q4] 31)) 0 (.int .i64 q0)) 1 (.int .i64 q1)) 2 (.int .i64 q2)) ops_ne 3 (.int .i64 q3)) (blk_set (blk_set (blk_set (blk_set (blk_alloc HG1.out (.cells #[.int .i64 q0, .int .i64 q1, .int .i64 q2, .int .i64 q3, .int .i64 q4] 31)) 0 (.int .i64 q0)) 1 (.int .i64 q1)) 2 (.int .i64 q2)) 3 (.int .i64 q3)) ops_ne 4 (.int .i64 q4)), (Kd.R_set (Kd.R_set (Kd.R_set (Kd.R_set (Kd.R_set (Kd.R_alloc HR1.out (.cells #[.int .i64 q0, .int .i64 q1, .int .i64 q2, .int .i64 q3, .int .i64 q4] 31)) (blk_alloc HG1.out (.cells #[.int .i64 q0, .int .i64 q1, .int .i64 q2, .int .i64 q3, .int .i64 q4] 31)) ints_ne 0 (.int .i64 q0)) (blk_set (blk_alloc HG1.out (.cells #[.int .i64 q0, .int .i64 q1, .int .i64 q2, .int .i64 q3, .int .i64 q4] 31)) 0 (.int .i64 q0)) ints_ne 1 (.int .i64 q1)) (blk_set (blk_set (blk_alloc HG1.out (.cells #[.int .i64 q0, .int .i64 q1, .int .i64 q2, .int .i64 q3, .int .i64 q4] 31)) 0 (.int .i64 q0)) 1 (.int .i64 q1)) ints_ne 2 (.int .i64 q2)) (blk_set (blk_set (blk_set (blk_alloc HG1.out (.cells #[.int .i64 q0, .int .i64 q1, .int .i64 q2, .int .i64 q3, .int .i64 q4] 31)) 0 (.int .i64 q0)) 1 (.int .i64 q1)) 2 (.int .i64 q2)) ints_ne 3 (.int .i64 q3)) (blk_set (blk_set (blk_set (blk_set (blk_alloc HG1.out (.cells #[.int .i64 q0, .int .i64 q1, .int .i64 q2, .int .i64 q3, .int .i64 q4] 31)) 0 (.int .i64 q0)) 1 (.int .i64 q1)) 2 (.int .i64 q2)) 3 (.int .i64 q3)) ints_ne 4 (.int .i64 q4))⟩, (Below.setCell (Below.setCell (Below.setCell (Below.setCell (Below.setCell (below_alloc1 HB1.out HL1.out (.cells #[.int .i64 q0, .int .i64 q1, .int .i64 q2, .int .i64 q3, .int .i64 q4] 31)) (p := ⟨g, 0, none⟩) HGE.out (.int .i64 q0)) (p := ⟨g, 1, none⟩) HGE.out (.int .i64 q1)) (p := ⟨g, 2, none⟩) HGE.out (.int .i64 q2)) (p := ⟨g, 3, none⟩) HGE.out (.int .i64 q3)) (p := ⟨g, 4, none⟩) HGE.out (.int .i64 q4))⟩
set_option maxHeartbeats 64000000 in
set_option maxRecDepth 100000 in
theorem line1_T (a b c d e : Int) (l0 : List (List S33)) (pk : List Int) (fl dn : Bool) (line : ByteArray) (hs : line.size ≤ 2000000000) (B g : Nat) (w : World) (hW : RdW w B g ⟨a, b, c, d, e, l0, pk, fl, dn⟩) (hg : B ≤ g) (ht : WT w) (h0 : ¬ a = 0) (hlen : l0.length ≤ 64) (hrow : ∀ l ∈ l0, l.length ≤ 64) :
  Calls Tryd.prog 30 #[.pointer (some ⟨g, 0, none⟩), .string line] w fun e_ w' => e_ = .returned (.bool ((⟨a, b, c, d, e, l0, pk, fl, dn⟩ : RS).lineS line).2) ∧ RdW w' B g ((⟨a, b, c, d, e, l0, pk, fl, dn⟩ : RS).lineS line).1 ∧ Below B w w' := by
 obtain ⟨RV, hRV⟩ : ∃ RV, RV = (⟨a, b, c, d, e, l0, pk, fl, dn⟩ : RS).lineS line := ⟨_, rfl⟩
 rw [← hRV]
 have HRV := Aside0.mk (hRV.trans (if_neg h0))
 clear hRV
 have hu1 := Tryd.underlying67
 have hu2 := Tryd.underlying47
 have HW := Aside0.mk hW
 obtain ⟨ov, pv, hG, hS, hR⟩ := hW
 simp only at hG hS hR
 have HGE := Aside0.mk hg
 have HT := Aside0.mk ht
 have HSZ := Aside0.mk hs
 have HLN := Aside0.mk hlen
 have HRW := Aside0.mk hrow
 have HBW := Aside0.mk (show B ≤ w.heap.size by have := blk_lt hG; omega)
 have c0 : w.cell? ⟨g, 0, none⟩ = some (.int .i64 a) := (blk_cell hG 0).trans rfl
 have n0 : (a == 0) = false := beq_eq_false_iff_ne.mpr h0
 have n1 := eq_false h0
 have hcut := strings_Cut.calls line ⟨#[32]⟩ _ _ _ w (cutf_eq line (by omega)) ht (Below.refl _ _)
 have HCR := Aside0.mk (show (cutR line).size ≤ 2000000000 by have := cutR_le line; omega)
 generalize (Lib.cut line.data.toList [32]).2.2 = cb at hcut
 generalize cutW line = cw at HRV hcut
 generalize cutR line = cr at HRV hcut HCR
 clear hG hS hg hR ht hs hlen hrow
 go_enter Tryd.func30, Tryd.ntmps30
 go_wp2_with fail
 refine hcut.mono ?_
 rintro e_ w1 ⟨rfl, hb⟩
 have HW1 := Aside0.mk (show RdW w1 B g ⟨a, b, c, d, e, l0, pk, fl, dn⟩ by
  obtain ⟨ov, pv, hG, hS, hR⟩ := HW.out
  exact ⟨ov, pv, blk_below hG hb, Kd.S_below hS hb, Kd.R_below hR hb⟩)
 have HB1 := Aside0.mk (below_mono hb HBW.out)
 have HT1 := Aside0.mk (HT.out.below hb)
 clear hb hcut HW HT c0 n0 n1 h0
 obtain ⟨ov1, pv1, hG1, hS1, hR1⟩ := HW1.out
 have HG1 := Aside0.mk hG1
 have HS1 := Aside0.mk hS1
 have HR1 := Aside0.mk hR1
 have c8 : w1.cell? ⟨g, 8, none⟩ = some (.bool dn) := (blk_cell hG1 8).trans rfl
 simp only at HG1 HS1 HR1
 clear hG1 hS1 hR1
 cases dn with
 | true =>
  have HV := Aside0.mk (HRV.out.trans (if_pos rfl))
  clear HRV
  go_wp2_with fail
  go_ret
  exact ⟨by rw [HV.out]; rfl, by rw [HV.out]; exact HW1.out, HB1.out⟩
 | false =>
  have HRV := Aside0.mk (HRV.out.trans (if_neg (by decide)))
  by_cases h1 : cw = ⟨#[116, 104, 114, 101, 97, 100, 115]⟩
  ·have HV := Aside0.mk (HRV.out.trans (if_pos h1))
   clear HRV
   subst h1
   have z1 : (((⟨#[116, 104, 114, 101, 97, 100, 115]⟩ : ByteArray).toList) == ((⟨#[116, 104, 114, 101, 97, 100, 115]⟩ : ByteArray).toList)) = true := by simp
   go_wp2_with fail
   refine (tale_small.calls cr _ w1 (small_f (by have := HCR.out; omega)) HT1.out (Below.refl _ _)).mono ?_
   rintro e_ w2 ⟨rfl, hb⟩
   have HW2 := Aside0.mk (show RdW w2 B g ⟨a, b, c, d, e, l0, pk, fl, false⟩ by
    obtain ⟨ov, pv, hG, hS, hR⟩ := HW1.out
    exact ⟨ov, pv, blk_below hG hb, Kd.S_below hS hb, Kd.R_below hR hb⟩)
   have HB2 := Aside0.mk (below_trans HB1.out (below_mono hb (by have := blk_lt HG1.out; have := HGE.out; omega)))
   clear hb HW1 HB1 HG1 HS1 HR1 c8
   have hcc := count_T ⟨a, b, c, d, e, l0, pk, fl, false⟩ (smallP cr.data.toList) B g w2 HW2.out HGE.out
   rw [← HV.out] at hcc
   go_wp2_with fail
   refine hcc.mono ?_
   rintro e_ w3 ⟨rfl, hW3, hB3⟩
   have HW3 := Aside0.mk hW3
   have HB3 := Aside0.mk (below_trans HB2.out hB3)
   clear hcc hW3 hB3
   go_wp2_with fail
   go_ret
   exact ⟨rfl, HW3.out, HB3.out⟩
  ·have HRV2 := Aside0.mk (HRV.out.trans (if_neg h1))
   have z1 : (cw.toList == [116, 104, 114, 101, 97, 100, 115]) = false := beq_eq_false_iff_ne.mpr (fun h => h1 (toList_inj (h.trans (by rw [ByteArray.toList_eq]))))
   have z1' := eq_false (show ¬ cw.toList = [116, 104, 114, 101, 97, 100, 115] from fun h => h1 (toList_inj (h.trans (by rw [ByteArray.toList_eq]))))
   clear HRV h1
   by_cases h2 : cw = ⟨#[112, 105, 99, 107, 115]⟩
   ·have HV := Aside0.mk (HRV2.out.trans (if_pos h2))
    clear HRV2
    subst h2
    have z2 : (((⟨#[112, 105, 99, 107, 115]⟩ : ByteArray).toList) != ((⟨#[112, 105, 99, 107, 115]⟩ : ByteArray).toList)) = false := by simp
    have hrp := tale_ReadPicks.calls (3 * line.size + 1) line (readPicksV line).1 (readPicksV line).2 w1 (readPicks_f line HSZ.out (Nat.le_refl _)) HT1.out (Below.refl _ _)
    have HPL := Aside0.mk (readPicks_len line)
    obtain ⟨ps, pe, hpp⟩ : ∃ ps pe, readPicksV line = (ps, pe) := ⟨_, _, rfl⟩
    rw [hpp] at hrp HPL HV
    simp only at hrp HPL HV
    clear hpp
    obtain ⟨RM, hRM⟩ : ∃ RM, decide (pe = 0 ∧ 0 < ps.length ∧ Lib.maxOf ps < (l0.length : Int)) = RM := ⟨_, rfl⟩
    rw [hRM] at HV
    have HRM := Aside0.mk hRM
    clear hRM
    go_wp2_with fail
    refine hrp.mono ?_
    rintro e_ w2 ⟨v0, rfl, hRv, hb⟩
    obtain ⟨Ap, cp, ep⟩ := Kd.R_slice hRv
    subst ep
    have HL1 := Aside0.mk (show B ≤ w1.heap.size by have := blk_lt HG1.out; have := HGE.out; omega)
    have hG2 := blk_below HG1.out hb
    have hS2 := Kd.S_below HS1.out hb
    have hR2 := Kd.R_lower hRv HL1.out
    have hB2 := below_trans HB1.out (below_mono hb HL1.out)
    have c6 : w2.cell? ⟨g, 6, none⟩ = some pv1 := (blk_cell hG2 6).trans rfl
    have f6 := blk_frozen hG2 6
    have c8' : w2.cell? ⟨g, 8, none⟩ = some (.bool false) := (blk_cell hG2 8).trans rfl
    have f8 := blk_frozen hG2 8
    have hG3 := blk_put (blk_set hG2 6 (.slice Ap ps.length cp)) 8 (.bool true) (cs' := #[.int .i64 a, .int .i64 b, .int .i64 c, .int .i64 d, .int .i64 e, ov1, .slice Ap ps.length cp, .bool fl, .bool true]) rfl
    have hS3 := Kd.S_set (Kd.S_set hS2 hG2 ops_ne 6 (.slice Ap ps.length cp)) (blk_set hG2 6 (.slice Ap ps.length cp)) ops_ne 8 (.bool true)
    have hR3 := Kd.R_set (Kd.R_set hR2 hG2 ints_ne 6 (.slice Ap ps.length cp)) (blk_set hG2 6 (.slice Ap ps.length cp)) ints_ne 8 (.bool true)
    have hB3 := Below.setCell (Below.setCell hB2 (p := ⟨g, 6, none⟩) HGE.out (.slice Ap ps.length cp)) (p := ⟨g, 8, none⟩) HGE.out (.bool true)
    have HG3 := Aside0.mk hG3
    have HS3 := Aside0.mk hS3
    have HR3 := Aside0.mk hR3
    have HB3 := Aside0.mk hB3
    clear hb hrp hRv hG2 hS2 hR2 hB2 hG3 hS3 hR3 hB3 HG1 HS1 HR1 HB1 HW1 c8
    go_wp2_with fail
    clear c6 f6 c8' f8
    generalize (w2.setCell ⟨g, 6, none⟩ (.slice Ap ps.length cp)).setCell ⟨g, 8, none⟩ (.bool true) = w3 at *
    obtain ⟨Ao, co, eo⟩ := Kd.S_slice HS3.out
    subst eo
    have hc5 : w3.cell? ⟨g, 5, none⟩ = some (.slice Ao l0.length co) := (blk_cell HG3.out 5).trans rfl
    by_cases he : pe = 0
    ·subst he
     have n1 : ((0 : Int) == 0) = true := rfl
     by_cases hp : 0 < ps.length
     ·have n2 : decide ((ps.length : Int) > 0) = true := decide_eq_true (by omega)
      have n3 := eq_true hp
      have HP := Aside0.mk hp
      have HRQ := Aside0.mk (show decide (Lib.maxOf ps < (l0.length : Int)) = RM by rw [← HRM.out]; simp [hp])
      clear hp
      obtain ⟨Ap', cp', ep, hcp, hCp⟩ := Kd.R_reads HR3.out
      injection ep with ep1 _ ep2
      subst ep1 ep2
      have HCP := Aside0.mk hCp
      have HCC := Aside0.mk hcp
      clear hCp hcp
      have n4 := HRQ.out
      have n5 := HRQ.out
      clear HRM
      refine start_ (n := 19) (S := fun w' => w'.cell? ⟨g, 5, none⟩ = some (.slice Ao l0.length co)) (ds := []) #[false, false, false, false, false, false, false, false, false, false, false, false, false, false, false, false, false, false, false] (by kernel_rfl) rfl rfl (hc5) (fun hHeld => ?_)
      refine pure_ (i := 0) (N := some 68) (v := ?_) (a' := ?_) #[true, false, false, false, false, false, false, false, false, false, false, false, false, false, false, false, false, false, false] rfl rfl (by kernel_rfl) (fun _ _ _ h => h) (Or.inl ⟨by rfl, ?_⟩) ?_ ?_
      rotate_left
      ·intro w'
       go_simp
       with_reducible rfl
      rotate_left
      ·simp only [Act.put, List.setIfInBounds_toArray, List.set_cons_zero, List.set_cons_succ, i64_w, i32_w]
       rfl
      refine pure_ (i := 1) (N := some 69) (v := ?_) (a' := ?_) #[true, true, false, false, false, false, false, false, false, false, false, false, false, false, false, false, false, false, false] rfl rfl (by kernel_rfl) (fun _ _ _ h => h) (Or.inl ⟨by rfl, ?_⟩) ?_ ?_
      rotate_left
      ·intro w'
       go_simp
       with_reducible rfl
      rotate_left
      ·simp only [Act.put, List.setIfInBounds_toArray, List.set_cons_zero, List.set_cons_succ, i64_w, i32_w]
       rfl
      refine pure_ (i := 2) (N := some 70) (v := ?_) (a' := ?_) #[true, true, true, false, false, false, false, false, false, false, false, false, false, false, false, false, false, false, false] rfl rfl (by kernel_rfl) (fun _ _ _ h => h) (Or.inl ⟨by rfl, ?_⟩) ?_ ?_
      rotate_left
      ·intro w'
       go_simp
       with_reducible rfl
      rotate_left
      ·simp only [Act.put, List.setIfInBounds_toArray, List.set_cons_zero, List.set_cons_succ, i64_w, i32_w]
       rfl
      refine pure_ (i := 3) (N := some 71) (v := ?_) (a' := ?_) #[true, true, true, true, false, false, false, false, false, false, false, false, false, false, false, false, false, false, false] rfl rfl (by kernel_rfl) (fun _ _ _ h => h) (Or.inl ⟨by rfl, ?_⟩) ?_ ?_
      rotate_left
      ·intro w'
       go_simp
       with_reducible rfl
      rotate_left
      ·simp only [Act.put, List.setIfInBounds_toArray, List.set_cons_zero, List.set_cons_succ, i64_w, i32_w]
       rfl
      refine pure_ (i := 4) (N := some 72) (v := ?_) (a' := ?_) #[true, true, true, true, true, false, false, false, false, false, false, false, false, false, false, false, false, false, false] rfl rfl (by kernel_rfl) (fun _ _ _ h => h) (Or.inl ⟨by rfl, ?_⟩) ?_ ?_
      rotate_left
      ·intro w'
       go_simp
       with_reducible rfl
      rotate_left
      ·simp only [Act.put, List.setIfInBounds_toArray, List.set_cons_zero, List.set_cons_succ, i64_w, i32_w]
       rfl
      refine pure_ (i := 5) (N := some 73) (v := ?_) (a' := ?_) #[true, true, true, true, true, true, false, false, false, false, false, false, false, false, false, false, false, false, false] rfl rfl (by kernel_rfl) (fun _ _ _ h => h) (Or.inl ⟨by rfl, ?_⟩) ?_ ?_
      rotate_left
      ·intro w'
       go_simp
       with_reducible rfl
      rotate_left
      ·simp only [Act.put, List.setIfInBounds_toArray, List.set_cons_zero, List.set_cons_succ, i64_w, i32_w]
       rfl
      refine pure_ (i := 6) (N := some 74) (v := ?_) (a' := ?_) #[true, true, true, true, true, true, true, false, false, false, false, false, false, false, false, false, false, false, false] rfl rfl (by kernel_rfl) (fun _ _ _ h => h) (Or.inl ⟨by rfl, ?_⟩) ?_ ?_
      rotate_left
      ·intro w'
       go_simp
       with_reducible rfl
      rotate_left
      ·simp only [Act.put, List.setIfInBounds_toArray, List.set_cons_zero, List.set_cons_succ, i64_w, i32_w]
       rfl
      refine pure_ (i := 7) (N := some 75) (v := ?_) (a' := ?_) #[true, true, true, true, true, true, true, true, false, false, false, false, false, false, false, false, false, false, false] rfl rfl (by kernel_rfl) (fun _ _ _ h => h) (Or.inl ⟨by rfl, ?_⟩) ?_ ?_
      rotate_left
      ·intro w'
       go_simp
       with_reducible rfl
      rotate_left
      ·simp only [Act.put, List.setIfInBounds_toArray, List.set_cons_zero, List.set_cons_succ, i64_w, i32_w]
       rfl
      refine pure_ (i := 8) (N := some 76) (v := ?_) (a' := ?_) #[true, true, true, true, true, true, true, true, true, false, false, false, false, false, false, false, false, false, false] rfl rfl (by kernel_rfl) (fun _ _ _ h => h) (Or.inl ⟨by rfl, ?_⟩) ?_ ?_
      rotate_left
      ·intro w'
       go_simp
       with_reducible rfl
      rotate_left
      ·simp only [Act.put, List.setIfInBounds_toArray, List.set_cons_zero, List.set_cons_succ, i64_w, i32_w]
       rfl
      refine pure_ (i := 10) (N := some 78) (v := ?_) (a' := ?_) #[true, true, true, true, true, true, true, true, true, false, true, false, false, false, false, false, false, false, false] rfl rfl (by kernel_rfl) (fun _ _ _ h => h) (Or.inl ⟨by rfl, ?_⟩) ?_ ?_
      rotate_left
      ·intro w'
       go_simp
       with_reducible rfl
      rotate_left
      ·simp only [Act.put, List.setIfInBounds_toArray, List.set_cons_zero, List.set_cons_succ, i64_w, i32_w]
       rfl
      refine pure_ (i := 11) (N := some 79) (v := ?_) (a' := ?_) #[true, true, true, true, true, true, true, true, true, false, true, true, false, false, false, false, false, false, false] rfl rfl (by kernel_rfl) (fun _ _ _ h => h) (Or.inl ⟨by rfl, ?_⟩) ?_ ?_
      rotate_left
      ·intro w'
       go_simp
       with_reducible rfl
      rotate_left
      ·simp only [Act.put, List.setIfInBounds_toArray, List.set_cons_zero, List.set_cons_succ, i64_w, i32_w]
       rfl
      refine pure_ (i := 12) (N := some 80) (v := ?_) (a' := ?_) #[true, true, true, true, true, true, true, true, true, false, true, true, true, false, false, false, false, false, false] rfl rfl (by kernel_rfl) (fun _ _ _ h => h) (Or.inl ⟨by rfl, ?_⟩) ?_ ?_
      rotate_left
      ·intro w'
       go_simp
       with_reducible rfl
      rotate_left
      ·simp only [Act.put, List.setIfInBounds_toArray, List.set_cons_zero, List.set_cons_succ, i64_w, i32_w]
       rfl
      refine pure_ (i := 13) (N := some 81) (v := ?_) (a' := ?_) #[true, true, true, true, true, true, true, true, true, false, true, true, true, true, false, false, false, false, false] rfl rfl (by kernel_rfl) (fun _ _ _ h => h) (Or.inl ⟨by rfl, ?_⟩) ?_ ?_
      rotate_left
      ·intro w'
       go_simp
       with_reducible rfl
      rotate_left
      ·simp only [Act.put, List.setIfInBounds_toArray, List.set_cons_zero, List.set_cons_succ, i64_w, i32_w]
       rfl
      refine take_ (i := 14) (N := some 82) (v := ?_) (a' := ?_) #[true, true, true, true, true, true, true, true, true, false, true, true, true, true, true, false, false, false, false] rfl rfl (by kernel_rfl) (fun _ _ _ h => h) (Or.inl ⟨by rfl, ?_⟩) hHeld ?_ ?_
      rotate_left
      ·intro w' s0
       go_simp
       with_reducible rfl
      rotate_left
      ·simp only [Act.put, List.setIfInBounds_toArray, List.set_cons_zero, List.set_cons_succ, i64_w, i32_w]
       rfl
      refine pure_ (i := 15) (N := some 83) (v := ?_) (a' := ?_) #[true, true, true, true, true, true, true, true, true, false, true, true, true, true, true, true, false, false, false] rfl rfl (by kernel_rfl) (fun _ _ _ h => h) (Or.inl ⟨by rfl, ?_⟩) ?_ ?_
      rotate_left
      ·intro w'
       go_simp
       with_reducible rfl
      rotate_left
      ·simp only [Act.put, List.setIfInBounds_toArray, List.set_cons_zero, List.set_cons_succ, i64_w, i32_w]
       rfl
      refine one_ (i := 9) (N := some 77) #[true, true, true, true, true, true, true, true, true, true, true, true, true, true, true, true, false, false, false] rfl rfl (by kernel_rfl) (by decide) (fun K hK => ?_)
      refine goes_ Tryd.func47 (by kernel_rfl) rfl #[.slice Ap ps.length cp] (by rfl) rfl rfl (by simp only [List.map_toArray, List.map_cons, List.map_nil]; rfl) ?_
      with_reducible refine (slices_Max.calls Ap cp ps (Lib.maxOf ps) _ (Kd.C_drew HCP.out) HCC.out (by unfold slices_Max.f; rw [if_pos ⟨HP.out, by have := HPL.out; omega⟩])).mono ?_
      rintro e_ w4 ⟨rfl, hb⟩
      refine ⟨_, rfl, ?_⟩
      have HG4 := Aside0.mk (blk_below (blk_drew HG3.out) hb)
      have HS4 := Aside0.mk (Kd.S_below (Kd.S_drew HS3.out) hb)
      have HR4 := Aside0.mk (Kd.R_below (Kd.R_drew HR3.out) hb)
      have HB4 := Aside0.mk (below_trans (below_drew HB3.out) (below_mono hb (by have := blk_lt HG3.out; have := HGE.out; show B ≤ w3.heap.size; omega)))
      clear hb
      refine hK.out _ _ ((blk_cell HG4.out 5).trans rfl) (fun hHeld => ?_)
      clear hK K
      refine norm_ (a' := ?_) ?_ ?_
      rotate_left
      ·show Act.put _ (some 77) _ = _
       simp only [Act.put, List.setIfInBounds_toArray, List.set_cons_zero, List.set_cons_succ, i64_w, i32_w]
       rfl
      refine pure_ (i := 16) (N := some 84) (v := ?_) (a' := ?_) #[true, true, true, true, true, true, true, true, true, true, true, true, true, true, true, true, true, false, false] rfl rfl (by kernel_rfl) (fun _ _ _ h => h) (Or.inl ⟨by rfl, ?_⟩) ?_ ?_
      rotate_left
      ·intro w'
       go_simp
       with_reducible rfl
      rotate_left
      ·simp only [Act.put, List.setIfInBounds_toArray, List.set_cons_zero, List.set_cons_succ, i64_w, i32_w]
       rfl
      refine pure_ (i := 17) (N := some 85) (v := ?_) (a' := ?_) #[true, true, true, true, true, true, true, true, true, true, true, true, true, true, true, true, true, true, false] rfl rfl (by kernel_rfl) (fun _ _ _ h => h) (Or.inl ⟨by rfl, ?_⟩) ?_ ?_
      rotate_left
      ·intro w'
       go_simp
       with_reducible rfl
      rotate_left
      ·simp only [Act.put, List.setIfInBounds_toArray, List.set_cons_zero, List.set_cons_succ, i64_w, i32_w]
       rfl
      refine pure_ (i := 18) (N := some 4) (v := ?_) (a' := ?_) #[true, true, true, true, true, true, true, true, true, true, true, true, true, true, true, true, true, true, true] rfl rfl (by kernel_rfl) (fun _ _ _ h => h) (Or.inl ⟨by rfl, ?_⟩) ?_ ?_
      rotate_left
      ·intro w'
       go_simp
       with_reducible rfl
      rotate_left
      ·simp only [Act.put, List.setIfInBounds_toArray, List.set_cons_zero, List.set_cons_succ, i64_w, i32_w]
       rfl
      refine done_ (by kernel_rfl) ?_
      go_wp2_with fail
      go_ret
      exact ⟨by rw [HV.out]; rfl, by rw [HV.out]; exact ⟨_, _, HG4.out, HS4.out, HR4.out⟩, HB4.out⟩
     ·have n2 : decide ((ps.length : Int) > 0) = false := decide_eq_false (by omega)
      have n3 := eq_false hp
      have HRQ := Aside0.mk (show RM = false by rw [← HRM.out]; simp [hp])
      clear hp HRM
      refine start_ (n := 19) (S := fun w' => True) (ds := []) #[false, false, false, false, false, false, false, false, false, false, false, false, false, false, false, false, false, false, false] (by kernel_rfl) rfl rfl trivial (fun hHeld => ?_)
      refine pure_ (i := 0) (N := some 68) (v := ?_) (a' := ?_) #[true, false, false, false, false, false, false, false, false, false, false, false, false, false, false, false, false, false, false] rfl rfl (by kernel_rfl) (fun _ _ _ h => h) (Or.inl ⟨by rfl, ?_⟩) ?_ ?_
      rotate_left
      ·intro w'
       go_simp
       with_reducible rfl
      rotate_left
      ·simp only [Act.put, List.setIfInBounds_toArray, List.set_cons_zero, List.set_cons_succ, i64_w, i32_w]
       rfl
      refine pure_ (i := 1) (N := some 69) (v := ?_) (a' := ?_) #[true, true, false, false, false, false, false, false, false, false, false, false, false, false, false, false, false, false, false] rfl rfl (by kernel_rfl) (fun _ _ _ h => h) (Or.inl ⟨by rfl, ?_⟩) ?_ ?_
      rotate_left
      ·intro w'
       go_simp
       with_reducible rfl
      rotate_left
      ·simp only [Act.put, List.setIfInBounds_toArray, List.set_cons_zero, List.set_cons_succ, i64_w, i32_w]
       rfl
      refine pure_ (i := 2) (N := some 70) (v := ?_) (a' := ?_) #[true, true, true, false, false, false, false, false, false, false, false, false, false, false, false, false, false, false, false] rfl rfl (by kernel_rfl) (fun _ _ _ h => h) (Or.inl ⟨by rfl, ?_⟩) ?_ ?_
      rotate_left
      ·intro w'
       go_simp
       with_reducible rfl
      rotate_left
      ·simp only [Act.put, List.setIfInBounds_toArray, List.set_cons_zero, List.set_cons_succ, i64_w, i32_w]
       rfl
      refine pure_ (i := 3) (N := some 71) (v := ?_) (a' := ?_) #[true, true, true, true, false, false, false, false, false, false, false, false, false, false, false, false, false, false, false] rfl rfl (by kernel_rfl) (fun _ _ _ h => h) (Or.inl ⟨by rfl, ?_⟩) ?_ ?_
      rotate_left
      ·intro w'
       go_simp
       with_reducible rfl
      rotate_left
      ·simp only [Act.put, List.setIfInBounds_toArray, List.set_cons_zero, List.set_cons_succ, i64_w, i32_w]
       rfl
      refine pure_ (i := 4) (N := some 72) (v := ?_) (a' := ?_) #[true, true, true, true, true, false, false, false, false, false, false, false, false, false, false, false, false, false, false] rfl rfl (by kernel_rfl) (fun _ _ _ h => h) (Or.inl ⟨by rfl, ?_⟩) ?_ ?_
      rotate_left
      ·intro w'
       go_simp
       with_reducible rfl
      rotate_left
      ·simp only [Act.put, List.setIfInBounds_toArray, List.set_cons_zero, List.set_cons_succ, i64_w, i32_w]
       rfl
      refine pure_ (i := 5) (N := some 73) (v := ?_) (a' := ?_) #[true, true, true, true, true, true, false, false, false, false, false, false, false, false, false, false, false, false, false] rfl rfl (by kernel_rfl) (fun _ _ _ h => h) (Or.inl ⟨by rfl, ?_⟩) ?_ ?_
      rotate_left
      ·intro w'
       go_simp
       with_reducible rfl
      rotate_left
      ·simp only [Act.put, List.setIfInBounds_toArray, List.set_cons_zero, List.set_cons_succ, i64_w, i32_w]
       rfl
      refine pure_ (i := 6) (N := some 74) (v := ?_) (a' := ?_) #[true, true, true, true, true, true, true, false, false, false, false, false, false, false, false, false, false, false, false] rfl rfl (by kernel_rfl) (fun _ _ _ h => h) (Or.inl ⟨by rfl, ?_⟩) ?_ ?_
      rotate_left
      ·intro w'
       go_simp
       with_reducible rfl
      rotate_left
      ·simp only [Act.put, List.setIfInBounds_toArray, List.set_cons_zero, List.set_cons_succ, i64_w, i32_w]
       rfl
      refine pure_ (i := 7) (N := some 75) (v := ?_) (a' := ?_) #[true, true, true, true, true, true, true, true, false, false, false, false, false, false, false, false, false, false, false] rfl rfl (by kernel_rfl) (fun _ _ _ h => h) (Or.inl ⟨by rfl, ?_⟩) ?_ ?_
      rotate_left
      ·intro w'
       go_simp
       with_reducible rfl
      rotate_left
      ·simp only [Act.put, List.setIfInBounds_toArray, List.set_cons_zero, List.set_cons_succ, i64_w, i32_w]
       rfl
      refine pure_ (i := 8) (N := some 76) (v := undef) (a' := ?_) #[true, true, true, true, true, true, true, true, true, false, false, false, false, false, false, false, false, false, false] rfl rfl (by kernel_rfl) (fun _ _ _ h => h) (Or.inr ⟨by rfl, rfl⟩) ?_ ?_
      rotate_left
      ·simp only [Act.put, List.setIfInBounds_toArray, List.set_cons_zero, List.set_cons_succ, i64_w, i32_w]
       rfl
      refine pure_ (i := 9) (N := some 77) (v := undef) (a' := ?_) #[true, true, true, true, true, true, true, true, true, true, false, false, false, false, false, false, false, false, false] rfl rfl (by kernel_rfl) (fun _ _ _ h => h) (Or.inr ⟨by rfl, rfl⟩) ?_ ?_
      rotate_left
      ·simp only [Act.put, List.setIfInBounds_toArray, List.set_cons_zero, List.set_cons_succ, i64_w, i32_w]
       rfl
      refine pure_ (i := 10) (N := some 78) (v := undef) (a' := ?_) #[true, true, true, true, true, true, true, true, true, true, true, false, false, false, false, false, false, false, false] rfl rfl (by kernel_rfl) (fun _ _ _ h => h) (Or.inr ⟨by rfl, rfl⟩) ?_ ?_
      rotate_left
      ·simp only [Act.put, List.setIfInBounds_toArray, List.set_cons_zero, List.set_cons_succ, i64_w, i32_w]
       rfl
      refine pure_ (i := 11) (N := some 79) (v := undef) (a' := ?_) #[true, true, true, true, true, true, true, true, true, true, true, true, false, false, false, false, false, false, false] rfl rfl (by kernel_rfl) (fun _ _ _ h => h) (Or.inr ⟨by rfl, rfl⟩) ?_ ?_
      rotate_left
      ·simp only [Act.put, List.setIfInBounds_toArray, List.set_cons_zero, List.set_cons_succ, i64_w, i32_w]
       rfl
      refine pure_ (i := 12) (N := some 80) (v := undef) (a' := ?_) #[true, true, true, true, true, true, true, true, true, true, true, true, true, false, false, false, false, false, false] rfl rfl (by kernel_rfl) (fun _ _ _ h => h) (Or.inr ⟨by rfl, rfl⟩) ?_ ?_
      rotate_left
      ·simp only [Act.put, List.setIfInBounds_toArray, List.set_cons_zero, List.set_cons_succ, i64_w, i32_w]
       rfl
      refine pure_ (i := 13) (N := some 81) (v := undef) (a' := ?_) #[true, true, true, true, true, true, true, true, true, true, true, true, true, true, false, false, false, false, false] rfl rfl (by kernel_rfl) (fun _ _ _ h => h) (Or.inr ⟨by rfl, rfl⟩) ?_ ?_
      rotate_left
      ·simp only [Act.put, List.setIfInBounds_toArray, List.set_cons_zero, List.set_cons_succ, i64_w, i32_w]
       rfl
      refine pure_ (i := 14) (N := some 82) (v := undef) (a' := ?_) #[true, true, true, true, true, true, true, true, true, true, true, true, true, true, true, false, false, false, false] rfl rfl (by kernel_rfl) (fun _ _ _ h => h) (Or.inr ⟨by rfl, rfl⟩) ?_ ?_
      rotate_left
      ·simp only [Act.put, List.setIfInBounds_toArray, List.set_cons_zero, List.set_cons_succ, i64_w, i32_w]
       rfl
      refine pure_ (i := 15) (N := some 83) (v := undef) (a' := ?_) #[true, true, true, true, true, true, true, true, true, true, true, true, true, true, true, true, false, false, false] rfl rfl (by kernel_rfl) (fun _ _ _ h => h) (Or.inr ⟨by rfl, rfl⟩) ?_ ?_
      rotate_left
      ·simp only [Act.put, List.setIfInBounds_toArray, List.set_cons_zero, List.set_cons_succ, i64_w, i32_w]
       rfl
      refine pure_ (i := 16) (N := some 84) (v := undef) (a' := ?_) #[true, true, true, true, true, true, true, true, true, true, true, true, true, true, true, true, true, false, false] rfl rfl (by kernel_rfl) (fun _ _ _ h => h) (Or.inr ⟨by rfl, rfl⟩) ?_ ?_
      rotate_left
      ·simp only [Act.put, List.setIfInBounds_toArray, List.set_cons_zero, List.set_cons_succ, i64_w, i32_w]
       rfl
      refine pure_ (i := 17) (N := some 85) (v := ?_) (a' := ?_) #[true, true, true, true, true, true, true, true, true, true, true, true, true, true, true, true, true, true, false] rfl rfl (by kernel_rfl) (fun _ _ _ h => h) (Or.inl ⟨by rfl, ?_⟩) ?_ ?_
      rotate_left
      ·intro w'
       go_simp
       with_reducible rfl
      rotate_left
      ·simp only [Act.put, List.setIfInBounds_toArray, List.set_cons_zero, List.set_cons_succ, i64_w, i32_w]
       rfl
      refine pure_ (i := 18) (N := some 4) (v := ?_) (a' := ?_) #[true, true, true, true, true, true, true, true, true, true, true, true, true, true, true, true, true, true, true] rfl rfl (by kernel_rfl) (fun _ _ _ h => h) (Or.inl ⟨by rfl, ?_⟩) ?_ ?_
      rotate_left
      ·intro w'
       go_simp
       with_reducible rfl
      rotate_left
      ·simp only [Act.put, List.setIfInBounds_toArray, List.set_cons_zero, List.set_cons_succ, i64_w, i32_w]
       rfl
      refine done_ (by kernel_rfl) ?_
      go_wp2_with fail
      go_ret
      exact ⟨by rw [HV.out, HRQ.out]; rfl, by rw [HV.out]; exact ⟨_, _, blk_drew HG3.out, Kd.S_drew HS3.out, Kd.R_drew HR3.out⟩, below_drew HB3.out⟩
    ·have n1 : (pe == 0) = false := beq_eq_false_iff_ne.mpr he
     have HRQ := Aside0.mk (show RM = false by rw [← HRM.out]; simp [he])
     clear he HRM
     refine start_ (n := 19) (S := fun w' => True) (ds := []) #[false, false, false, false, false, false, false, false, false, false, false, false, false, false, false, false, false, false, false] (by kernel_rfl) rfl rfl trivial (fun hHeld => ?_)
     refine pure_ (i := 0) (N := some 68) (v := ?_) (a' := ?_) #[true, false, false, false, false, false, false, false, false, false, false, false, false, false, false, false, false, false, false] rfl rfl (by kernel_rfl) (fun _ _ _ h => h) (Or.inl ⟨by rfl, ?_⟩) ?_ ?_
     rotate_left
     ·intro w'
      go_simp
      with_reducible rfl
     rotate_left
     ·simp only [Act.put, List.setIfInBounds_toArray, List.set_cons_zero, List.set_cons_succ, i64_w, i32_w]
      rfl
     refine pure_ (i := 1) (N := some 69) (v := ?_) (a' := ?_) #[true, true, false, false, false, false, false, false, false, false, false, false, false, false, false, false, false, false, false] rfl rfl (by kernel_rfl) (fun _ _ _ h => h) (Or.inl ⟨by rfl, ?_⟩) ?_ ?_
     rotate_left
     ·intro w'
      go_simp
      with_reducible rfl
     rotate_left
     ·simp only [Act.put, List.setIfInBounds_toArray, List.set_cons_zero, List.set_cons_succ, i64_w, i32_w]
      rfl
     refine pure_ (i := 2) (N := some 70) (v := ?_) (a' := ?_) #[true, true, true, false, false, false, false, false, false, false, false, false, false, false, false, false, false, false, false] rfl rfl (by kernel_rfl) (fun _ _ _ h => h) (Or.inl ⟨by rfl, ?_⟩) ?_ ?_
     rotate_left
     ·intro w'
      go_simp
      with_reducible rfl
     rotate_left
     ·simp only [Act.put, List.setIfInBounds_toArray, List.set_cons_zero, List.set_cons_succ, i64_w, i32_w]
      rfl
     refine pure_ (i := 3) (N := some 71) (v := undef) (a' := ?_) #[true, true, true, true, false, false, false, false, false, false, false, false, false, false, false, false, false, false, false] rfl rfl (by kernel_rfl) (fun _ _ _ h => h) (Or.inr ⟨by rfl, rfl⟩) ?_ ?_
     rotate_left
     ·simp only [Act.put, List.setIfInBounds_toArray, List.set_cons_zero, List.set_cons_succ, i64_w, i32_w]
      rfl
     refine pure_ (i := 4) (N := some 72) (v := undef) (a' := ?_) #[true, true, true, true, true, false, false, false, false, false, false, false, false, false, false, false, false, false, false] rfl rfl (by kernel_rfl) (fun _ _ _ h => h) (Or.inr ⟨by rfl, rfl⟩) ?_ ?_
     rotate_left
     ·simp only [Act.put, List.setIfInBounds_toArray, List.set_cons_zero, List.set_cons_succ, i64_w, i32_w]
      rfl
     refine pure_ (i := 5) (N := some 73) (v := undef) (a' := ?_) #[true, true, true, true, true, true, false, false, false, false, false, false, false, false, false, false, false, false, false] rfl rfl (by kernel_rfl) (fun _ _ _ h => h) (Or.inr ⟨by rfl, rfl⟩) ?_ ?_
     rotate_left
     ·simp only [Act.put, List.setIfInBounds_toArray, List.set_cons_zero, List.set_cons_succ, i64_w, i32_w]
      rfl
     refine pure_ (i := 6) (N := some 74) (v := ?_) (a' := ?_) #[true, true, true, true, true, true, true, false, false, false, false, false, false, false, false, false, false, false, false] rfl rfl (by kernel_rfl) (fun _ _ _ h => h) (Or.inl ⟨by rfl, ?_⟩) ?_ ?_
     rotate_left
     ·intro w'
      go_simp
      with_reducible rfl
     rotate_left
     ·simp only [Act.put, List.setIfInBounds_toArray, List.set_cons_zero, List.set_cons_succ, i64_w, i32_w]
      rfl
     refine pure_ (i := 7) (N := some 75) (v := ?_) (a' := ?_) #[true, true, true, true, true, true, true, true, false, false, false, false, false, false, false, false, false, false, false] rfl rfl (by kernel_rfl) (fun _ _ _ h => h) (Or.inl ⟨by rfl, ?_⟩) ?_ ?_
     rotate_left
     ·intro w'
      go_simp
      with_reducible rfl
     rotate_left
     ·simp only [Act.put, List.setIfInBounds_toArray, List.set_cons_zero, List.set_cons_succ, i64_w, i32_w]
      rfl
     refine pure_ (i := 8) (N := some 76) (v := undef) (a' := ?_) #[true, true, true, true, true, true, true, true, true, false, false, false, false, false, false, false, false, false, false] rfl rfl (by kernel_rfl) (fun _ _ _ h => h) (Or.inr ⟨by rfl, rfl⟩) ?_ ?_
     rotate_left
     ·simp only [Act.put, List.setIfInBounds_toArray, List.set_cons_zero, List.set_cons_succ, i64_w, i32_w]
      rfl
     refine pure_ (i := 9) (N := some 77) (v := undef) (a' := ?_) #[true, true, true, true, true, true, true, true, true, true, false, false, false, false, false, false, false, false, false] rfl rfl (by kernel_rfl) (fun _ _ _ h => h) (Or.inr ⟨by rfl, rfl⟩) ?_ ?_
     rotate_left
     ·simp only [Act.put, List.setIfInBounds_toArray, List.set_cons_zero, List.set_cons_succ, i64_w, i32_w]
      rfl
     refine pure_ (i := 10) (N := some 78) (v := undef) (a' := ?_) #[true, true, true, true, true, true, true, true, true, true, true, false, false, false, false, false, false, false, false] rfl rfl (by kernel_rfl) (fun _ _ _ h => h) (Or.inr ⟨by rfl, rfl⟩) ?_ ?_
     rotate_left
     ·simp only [Act.put, List.setIfInBounds_toArray, List.set_cons_zero, List.set_cons_succ, i64_w, i32_w]
      rfl
     refine pure_ (i := 11) (N := some 79) (v := undef) (a' := ?_) #[true, true, true, true, true, true, true, true, true, true, true, true, false, false, false, false, false, false, false] rfl rfl (by kernel_rfl) (fun _ _ _ h => h) (Or.inr ⟨by rfl, rfl⟩) ?_ ?_
     rotate_left
     ·simp only [Act.put, List.setIfInBounds_toArray, List.set_cons_zero, List.set_cons_succ, i64_w, i32_w]
      rfl
     refine pure_ (i := 12) (N := some 80) (v := undef) (a' := ?_) #[true, true, true, true, true, true, true, true, true, true, true, true, true, false, false, false, false, false, false] rfl rfl (by kernel_rfl) (fun _ _ _ h => h) (Or.inr ⟨by rfl, rfl⟩) ?_ ?_
     rotate_left
     ·simp only [Act.put, List.setIfInBounds_toArray, List.set_cons_zero, List.set_cons_succ, i64_w, i32_w]
      rfl
     refine pure_ (i := 13) (N := some 81) (v := undef) (a' := ?_) #[true, true, true, true, true, true, true, true, true, true, true, true, true, true, false, false, false, false, false] rfl rfl (by kernel_rfl) (fun _ _ _ h => h) (Or.inr ⟨by rfl, rfl⟩) ?_ ?_
     rotate_left
     ·simp only [Act.put, List.setIfInBounds_toArray, List.set_cons_zero, List.set_cons_succ, i64_w, i32_w]
      rfl
     refine pure_ (i := 14) (N := some 82) (v := undef) (a' := ?_) #[true, true, true, true, true, true, true, true, true, true, true, true, true, true, true, false, false, false, false] rfl rfl (by kernel_rfl) (fun _ _ _ h => h) (Or.inr ⟨by rfl, rfl⟩) ?_ ?_
     rotate_left
     ·simp only [Act.put, List.setIfInBounds_toArray, List.set_cons_zero, List.set_cons_succ, i64_w, i32_w]
      rfl
     refine pure_ (i := 15) (N := some 83) (v := undef) (a' := ?_) #[true, true, true, true, true, true, true, true, true, true, true, true, true, true, true, true, false, false, false] rfl rfl (by kernel_rfl) (fun _ _ _ h => h) (Or.inr ⟨by rfl, rfl⟩) ?_ ?_
     rotate_left
     ·simp only [Act.put, List.setIfInBounds_toArray, List.set_cons_zero, List.set_cons_succ, i64_w, i32_w]
      rfl
     refine pure_ (i := 16) (N := some 84) (v := undef) (a' := ?_) #[true, true, true, true, true, true, true, true, true, true, true, true, true, true, true, true, true, false, false] rfl rfl (by kernel_rfl) (fun _ _ _ h => h) (Or.inr ⟨by rfl, rfl⟩) ?_ ?_
     rotate_left
     ·simp only [Act.put, List.setIfInBounds_toArray, List.set_cons_zero, List.set_cons_succ, i64_w, i32_w]
      rfl
     refine pure_ (i := 17) (N := some 85) (v := ?_) (a' := ?_) #[true, true, true, true, true, true, true, true, true, true, true, true, true, true, true, true, true, true, false] rfl rfl (by kernel_rfl) (fun _ _ _ h => h) (Or.inl ⟨by rfl, ?_⟩) ?_ ?_
     rotate_left
     ·intro w'
      go_simp
      with_reducible rfl
     rotate_left
     ·simp only [Act.put, List.setIfInBounds_toArray, List.set_cons_zero, List.set_cons_succ, i64_w, i32_w]
      rfl
     refine pure_ (i := 18) (N := some 4) (v := ?_) (a' := ?_) #[true, true, true, true, true, true, true, true, true, true, true, true, true, true, true, true, true, true, true] rfl rfl (by kernel_rfl) (fun _ _ _ h => h) (Or.inl ⟨by rfl, ?_⟩) ?_ ?_
     rotate_left
     ·intro w'
      go_simp
      with_reducible rfl
     rotate_left
     ·simp only [Act.put, List.setIfInBounds_toArray, List.set_cons_zero, List.set_cons_succ, i64_w, i32_w]
      rfl
     refine done_ (by kernel_rfl) ?_
     go_wp2_with fail
     go_ret
     exact ⟨by rw [HV.out, HRQ.out]; rfl, by rw [HV.out]; exact ⟨_, _, blk_drew HG3.out, Kd.S_drew HS3.out, Kd.R_drew HR3.out⟩, below_drew HB3.out⟩
   ·have HV := Aside0.mk (HRV2.out.trans (if_neg h2))
    clear HRV2
    have z2 : (cw.toList != [112, 105, 99, 107, 115]) = true := by simpa using (fun h : cw.toList = [112, 105, 99, 107, 115] => h2 (toList_inj (h.trans (by rw [ByteArray.toList_eq]))))
    have z3 : (cw.toList == [112, 105, 99, 107, 115]) = false := beq_eq_false_iff_ne.mpr (fun h => h2 (toList_inj (h.trans (by rw [ByteArray.toList_eq]))))
    have z2' := eq_false (show ¬ cw.toList = [112, 105, 99, 107, 115] from fun h => h2 (toList_inj (h.trans (by rw [ByteArray.toList_eq]))))
    clear h2
    have hop := rop_T ⟨a, b, c, d, e, l0, pk, fl, false⟩ line (by have := HSZ.out; omega) B g w1 HW1.out HGE.out HT1.out HLN.out HRW.out
    rw [← HV.out] at hop
    go_wp2_with fail
    refine hop.mono ?_
    rintro e_ w3 ⟨rfl, hW3, hB3⟩
    have HW3 := Aside0.mk hW3
    have HB3 := Aside0.mk (below_trans HB1.out hB3)
    clear hop hW3 hB3
    go_wp2_with fail
    go_ret
    exact ⟨rfl, HW3.out, HB3.out⟩
end Go.Proofs.YtinmmnljicmppaaDoor.PTaleApart
namespace Go.Proofs.YtinmmnljicmppaaDoor.PTaleApart
open Go Go.RowKit Go.Proofs.YtinmmnljicmppaaDoorW.PrintWords Go.Proofs.YtinmmnljicmppaaDoorW.PrintLast Go.Proofs.YtinmmnljicmppaaDoorW.PrintMore Go.Proofs.YtinmmnljicmppaaDoor.Str
set_option linter.unusedVariables false
set_option linter.unusedSimpArgs false
theorem line_T (s : RS) (line : ByteArray) (hs : line.size ≤ 2000000000) (B g : Nat) (w : World) (hW : RdW w B g s) (hg : B ≤ g) (ht : WT w) (hlen : s.ops.length ≤ 64) (hrow : ∀ l ∈ s.ops, l.length ≤ 64) :
  Calls Tryd.prog 30 #[.pointer (some ⟨g, 0, none⟩), .string line] w fun e_ w' => e_ = .returned (.bool (s.lineS line).2) ∧ RdW w' B g (s.lineS line).1 ∧ Below B w w' := by
 obtain ⟨a, b, c, d, e, l0, pk, fl, dn⟩ := s
 by_cases h0 : a = 0
 ·have hv : (⟨a, b, c, d, e, l0, pk, fl, dn⟩ : RS).lineS line = (⟨(readConfV line).1.1, (readConfV line).1.2.1, (readConfV line).1.2.2.1, (readConfV line).1.2.2.2.1, (readConfV line).1.2.2.2.2, l0, pk, fl, dn⟩, (readConfV line).2 == 0) := if_pos h0
  rw [hv]
  exact line0_T a b c d e l0 pk fl dn line hs B g w hW hg ht h0 _ _ _ _ _ _ rfl
 ·exact line1_T a b c d e l0 pk fl dn line hs B g w hW hg ht h0 hlen hrow
def RS.Ok (s : RS) : Prop := s.ops.length ≤ 64 ∧ ∀ l ∈ s.ops, l.length ≤ 64
theorem growL_ok {l : List (List S33)} (h : ∀ x ∈ l, x.length ≤ 64) (n : Nat) : ∀ x ∈ growL l n, x.length ≤ 64 := by
 intro x hx
 unfold growL at hx
 rcases List.mem_append.1 hx with hx | hx
 ·exact h x hx
 ·rw [List.eq_of_mem_replicate hx]; simp
theorem readOp_th {a b c d e : Int} {line : ByteArray} (h : (readOpV a b c d e line).2.2.2.2.2 = 0) : 0 ≤ (readOpV a b c d e line).1 ∧ (readOpV a b c d e line).1 < 64 := by
 unfold readOpV at h ⊢
 split at h
 ·rename_i hc
  rw [if_pos hc]
  exact ⟨hc.2.2.1, hc.2.2.2.1⟩
 ·exact absurd h (by decide)
theorem RS.opS_ok (s : RS) (line : ByteArray) (h : s.Ok) : (s.opS line).1.Ok := by
 obtain ⟨h1, h2⟩ := h
 unfold RS.opS
 simp only
 split
 ·exact ⟨h1, h2⟩
 ·rename_i hc
  have he : (readOpV s.a s.b s.c s.d s.e line).2.2.2.2.2 = 0 := Classical.not_not.1 (fun hh => hc (.inl hh))
  obtain ⟨t0, t1⟩ := readOp_th he
  have hg : (growL s.ops ((readOpV s.a s.b s.c s.d s.e line).1 + 1).toNat).length ≤ 64 := by rw [growL_len]; omega
  have hr := growL_ok h2 ((readOpV s.a s.b s.c s.d s.e line).1 + 1).toNat
  generalize growL s.ops ((readOpV s.a s.b s.c s.d s.e line).1 + 1).toNat = L at hg hr
  generalize (readOpV s.a s.b s.c s.d s.e line).1.toNat = j
  split
  ·exact ⟨hg, hr⟩
  ·rename_i h64
   refine ⟨by show (L.set j _).length ≤ 64; rw [List.length_set]; exact hg, fun x hx => ?_⟩
   rcases List.mem_or_eq_of_mem_set hx with hx | rfl
   ·exact hr x hx
   ·have hl : (L.getD j []).length ≤ 64 := by
     rw [List.getD_eq_getElem?_getD]
     rcases hq : L[j]? with _ | y
     ·simp
     ·exact hr y (List.mem_of_getElem? hq)
    simp only [List.length_append, List.length_cons, List.length_nil]
    omega
theorem RS.lineS_ok (s : RS) (line : ByteArray) (h : s.Ok) : (s.lineS line).1.Ok := by
 unfold RS.lineS
 split
 ·exact h
 ·split
  ·exact h
  ·split
   ·unfold RS.countS
    split
    ·exact h
    ·rename_i hc
     exact ⟨by show (growL s.ops _).length ≤ 64; rw [growL_len]; have := h.1; omega, growL_ok h.2 _⟩
   ·split
    ·exact h
    ·exact s.opS_ok line h
def RS.lines (s : RS) : List ByteArray → Nat → RS × Nat
 | [], _ => (s, 0)
 | l :: r, i => if (s.lineS l).2 = true then RS.lines (s.lineS l).1 r (i + 1) else ((s.lineS l).1, i + 1)
def scR (s : RS) : Int × Int × Int := scV s.a s.b s.c s.d s.e s.ops s.picks
def readV (text : ByteArray) : RS × Int × Int :=
 if 1048576 < text.size then (RS.none, 0, 9)
 else if (RS.none.lines ((splitS 10 text).take ((splitS 10 text).length - 1)) 0).2 ≠ 0 then (RS.none, (RS.none.lines ((splitS 10 text).take ((splitS 10 text).length - 1)) 0).2, 4)
 else if (splitS 10 text).getD ((splitS 10 text).length - 1) ⟨#[]⟩ ≠ ⟨#[]⟩ then
  (RS.none, if ((RS.none.lines ((splitS 10 text).take ((splitS 10 text).length - 1)) 0).1.lineS ((splitS 10 text).getD ((splitS 10 text).length - 1) ⟨#[]⟩)).2 = true then ((splitS 10 text).length : Int) + 1 else ((splitS 10 text).length : Int), 4)
 else if scR (RS.none.lines ((splitS 10 text).take ((splitS 10 text).length - 1)) 0).1 ≠ (0, 0, 0) then (RS.none, ((splitS 10 text).length : Int), 4)
 else ((RS.none.lines ((splitS 10 text).take ((splitS 10 text).length - 1)) 0).1, 0, 0)
theorem split_piece (c : UInt8) (text : ByteArray) : ∀ w ∈ splitS c text, w.size ≤ text.size := by
 intro w hw
 unfold splitS at hw
 obtain ⟨l, hl, rfl⟩ := List.mem_map.1 hw
 have := piece_le c _ l hl
 have h3 : text.data.toList.length = text.size := by rw [Array.length_toList]; rfl
 show l.toArray.size ≤ _
 simp only [List.size_toArray]
 omega
theorem split_le10 (text : ByteArray) : (splitS 10 text).length ≤ text.size + 1 := by
 have := splitS_len 10 text
 have h2 : text.data.toList.count 10 ≤ text.data.toList.length := List.count_le_length
 have h3 : text.data.toList.length = text.size := by rw [Array.length_toList]; rfl
 omega
theorem splitf10_eq (text : ByteArray) (h : text.size ≤ 4000000000) : strings_Split.f text (⟨#[10]⟩ : ByteArray) = some (splitS 10 text) := by
 unfold strings_Split.f
 rw [if_pos ⟨by omega, by decide⟩, splitB_eq]
theorem row_cell {W : World} {n : Nat} {A : Option Addr} {xs : List ByteArray} (h : Kd.C Kd.string W A n xs) (i : Nat) (hi : i < n) : ∃ ad, A = some ad ∧ W.cell? (ad.add i) = some (.string (xs.getD i ⟨#[]⟩)) := by
 obtain ⟨ad, cc, e, _, hK, hc0⟩ := Kd.C_get h ⟨#[]⟩ (i : Int) (by omega) (by omega)
 have hK2 : cc = [.string (xs.getD i ⟨#[]⟩)] := hK
 subst hK2
 have h2 := hc0 0 _ rfl
 rw [Int.toNat_natCast] at h2
 have h3 : W.cell? (ad.add (i * 1 + 0)) = some (.string (xs.getD i ⟨#[]⟩)) := h2
 rw [Nat.mul_one, Nat.add_zero] at h3
 exact ⟨ad, e, h3⟩
end Go.Proofs.YtinmmnljicmppaaDoor.PTaleApart
