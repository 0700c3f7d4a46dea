import Derived.Test.YtinmmnljicmppaaDoorVTaleO
/-
The reader's op.
-/
namespace Go.Proofs.YtinmmnljicmppaaDoor.PTaleApart
open Go Go.RowKit Go.Proofs.YtinmmnljicmppaaDoorW.PrintWords Go.Proofs.YtinmmnljicmppaaDoorW.PrintLast Go.Proofs.YtinmmnljicmppaaDoorW.PrintMore Go.Proofs.YtinmmnljicmppaaDoor.Str
attribute [local go_sem] max2_int min2_int max_two min_two max_three min_three max_four min_four
set_option linter.unusedVariables false
set_option linter.unusedSimpArgs false
theorem ints_ne2 : ∀ q, q ∈ 3 :: (Kd.int .i64).E → q ≠ 72 := by
 intro q hq
 have : q = 3 := by simpa [Kd.int, Kd.scalar] using hq
 omega
theorem alloc_size1 (w : World) (o : Obj) : (w.alloc o).heap.size = w.heap.size + 1 := Array.size_push o
theorem blk_same1 {w : World} {k : Nat} (o : Obj) (h : k < w.heap.size) : (w.alloc o).heap[k]? = w.heap[k]? := by
 rcases hq : w.heap[k]? with _ | y
 ·rw [Array.getElem?_eq_none_iff] at hq; omega
 ·exact blk_alloc hq o
theorem below_mono {B C : Nat} {w w1 : World} (h : Below C w w1) (hB : B ≤ C) : Below B w w1 := ⟨h.os, h.tape, h.output, h.size, fun i hi => h.block i (Nat.lt_of_lt_of_le hi hB)⟩
theorem below_alloc1 {B : Nat} {w W : World} (h : Below B w W) (hB : B ≤ W.heap.size) (o : Obj) : Below B w (W.alloc o) := h.trans (below_mono (below_alloc (Below.refl _ _) o) hB)
theorem below_trans {B : Nat} {w W W1 : World} (h : Below B w W) (h1 : Below B W W1) : Below B w W1 := h.trans h1
set_option maxHeartbeats 64000000 in
set_option maxRecDepth 100000 in
theorem rop_T (s : RS) (line : ByteArray) (hs : line.size ≤ 4000000000) (B g : Nat) (w : World) (hW : RdW w B g s) (hg : B ≤ g) (ht : WT w) (hlen : s.ops.length ≤ 64) (hrow : ∀ l ∈ s.ops, l.length ≤ 64) :
  Calls Tryd.prog 45 #[.pointer (some ⟨g, 0, none⟩), .string line] w fun e_ w' => e_ = .returned (.bool (s.opS line).2) ∧ RdW w' B g (s.opS line).1 ∧ Below B w w' := by
 obtain ⟨a, b, c, d, e, l0, pk, fl, dn⟩ := s
 obtain ⟨ov, pv, hG, hS, hR⟩ := hW
 simp only at hG hS hR hlen hrow
 have hu1 := Tryd.underlying67
 have hu2 := Tryd.underlying47
 have hu3 := Tryd.underlying31
 have hu4 := Tryd.underlying33
 have HGE := Aside0.mk hg
 have HBW := Aside0.mk (show B ≤ w.heap.size by have := blk_lt hG; omega)
 have HG := Aside0.mk hG
 have HS := Aside0.mk hS
 have HR := Aside0.mk hR
 have HLN := Aside0.mk hlen
 have HRW := Aside0.mk hrow
 clear hG hS hg hR hlen hrow
 obtain ⟨Ao, co, eo⟩ := Kd.S_slice HS.out
 subst eo
 obtain ⟨th, k, x, v, l, er, hop⟩ : ∃ th k x v l er, readOpV a b c d e line = (th, k, x, v, l, er) := ⟨_, _, _, _, _, _, rfl⟩
 have hc := tale_ReadOp.calls 100 a b c d e line th k x v l er w (by rw [readOp_f a b c d e line hs, hop]) ht (Below.refl _ _)
 have HTH := Aside0.mk (show er = 0 → 0 ≤ th ∧ th < 64 from fun h => by
  unfold readOpV at hop
  split at hop
  ·rename_i h2
   injection hop with h3 hop
   rw [← h3]
   exact ⟨h2.2.2.1, h2.2.2.2.1⟩
  ·injection hop with _ hop; injection hop with _ hop; injection hop with _ hop; injection hop with _ hop; injection hop with _ hop
   omega)
 have c0 : w.cell? ⟨g, 0, none⟩ = some (.int .i64 a) := (blk_cell HG.out 0).trans rfl
 have c1 : w.cell? ⟨g, 1, none⟩ = some (.int .i64 b) := (blk_cell HG.out 1).trans rfl
 have c2 : w.cell? ⟨g, 2, none⟩ = some (.int .i64 c) := (blk_cell HG.out 2).trans rfl
 have c3 : w.cell? ⟨g, 3, none⟩ = some (.int .i64 d) := (blk_cell HG.out 3).trans rfl
 have c4 : w.cell? ⟨g, 4, none⟩ = some (.int .i64 e) := (blk_cell HG.out 4).trans rfl
 have hO : ∀ q : Bool, (⟨a, b, c, d, e, l0, pk, fl, dn⟩ : RS).opS line = (if er ≠ 0 ∨ fl = true ∨ th < (l0.length : Int) - 1 then ((⟨a, b, c, d, e, l0, pk, fl, dn⟩ : RS), false)
   else if ((growL l0 (th + 1).toNat).getD th.toNat []).length = 64 then (⟨a, b, c, d, e, growL l0 (th + 1).toNat, pk, fl, dn⟩, false)
   else (⟨a, b, c, d, e, (growL l0 (th + 1).toNat).set th.toNat ((growL l0 (th + 1).toNat).getD th.toNat [] ++ [⟨k, x, v, l⟩]), pk, fl, dn⟩, true)) := fun _ => by
  unfold RS.opS
  simp only [hop]
 obtain ⟨RV, hRV⟩ : ∃ RV, RV = (⟨a, b, c, d, e, l0, pk, fl, dn⟩ : RS).opS line := ⟨_, rfl⟩
 rw [← hRV]
 have HRV := Aside0.mk (hRV.trans (hO true))
 clear hO hop ht hRV
 go_enter Tryd.func45, Tryd.ntmps45
 go_wp2_with fail
 refine hc.mono ?_
 rintro e_ w1 ⟨rfl, hb⟩
 have HG1 := Aside0.mk (blk_below HG.out hb)
 have HS1 := Aside0.mk (Kd.S_below HS.out hb)
 have HR1 := Aside0.mk (Kd.R_below HR.out hb)
 have HB1 := Aside0.mk (below_mono hb HBW.out)
 have HL1 := Aside0.mk (show B ≤ w1.heap.size by have := blk_lt HG1.out; have := HGE.out; omega)
 have c5 : ∀ o, (w1.alloc o).cell? ⟨g, 5, none⟩ = some (.slice Ao l0.length co) := fun o => (blk_cell (blk_alloc HG1.out o) 5).trans rfl
 have c7 : ∀ o, (w1.alloc o).cell? ⟨g, 7, none⟩ = some (.bool fl) := fun o => (blk_cell (blk_alloc HG1.out o) 7).trans rfl
 clear hb hc HG HS HR c0 c1 c2 c3 c4
 by_cases he : ¬ er = 0
 ·have HV := Aside0.mk (HRV.out.trans (if_pos (.inl he)))
  clear HRV
  have e1 := eq_false he
  have e2 : (er == 0) = false := beq_eq_false_iff_ne.mpr he
  have e3 : (er != 0) = true := by simpa using he
  clear he
  go_wp2_with fail
  go_ret
  exact ⟨by rw [HV.out]; rfl, by rw [HV.out]; exact ⟨_, _, blk_alloc HG1.out _, Kd.S_alloc HS1.out _, Kd.R_alloc HR1.out _⟩, below_alloc1 HB1.out HL1.out _⟩
 replace he := Classical.not_not.1 he
 subst he
 have HT2 := Aside0.mk (HTH.out rfl)
 clear HTH
 cases fl with
 | true =>
  have HV := Aside0.mk (HRV.out.trans (if_pos (.inr (.inl rfl))))
  clear HRV
  go_wp2_with fail
  go_ret
  exact ⟨by rw [HV.out]; rfl, by rw [HV.out]; exact ⟨_, _, blk_alloc HG1.out _, Kd.S_alloc HS1.out _, Kd.R_alloc HR1.out _⟩, below_alloc1 HB1.out HL1.out _⟩
 | false =>
  have w1_ : wrap64 ((l0.length : Int) - 1) = (l0.length : Int) - 1 := by have := HLN.out; unfold wrap64; omega
  by_cases ht : th < (l0.length : Int) - 1
  ·have HV := Aside0.mk (HRV.out.trans (if_pos (.inr (.inr ht))))
   clear HRV
   have e1 : decide (th < (l0.length : Int) - 1) = true := decide_eq_true ht
   have e2 := eq_true ht
   clear ht
   go_wp2_with fail
   go_ret
   exact ⟨by rw [HV.out]; rfl, by rw [HV.out]; exact ⟨_, _, blk_alloc HG1.out _, Kd.S_alloc HS1.out _, Kd.R_alloc HR1.out _⟩, below_alloc1 HB1.out HL1.out _⟩
  ·have HV := Aside0.mk (HRV.out.trans (if_neg (by simp [ht])))
   clear HRV
   have e1 : decide (th < (l0.length : Int) - 1) = false := decide_eq_false ht
   have e2 := eq_false ht
   have HTN := Aside0.mk ht
   clear ht
   obtain ⟨N, hN⟩ : ∃ N : Nat, (N : Int) = th + 1 := ⟨(th + 1).toNat, by have := HT2.out; omega⟩
   have w2_ : wrap64 (th + 1) = (N : Int) := by have := HT2.out; unfold wrap64; omega
   have hV := HV.out
   rw [show (th + 1).toNat = N by omega] at hV
   have HV := Aside0.mk hV
   clear hV
   have HN := Aside0.mk hN
   have HLG := Aside0.mk (show (growL l0 N).length = N by rw [growL_len]; have := HTN.out; have := HT2.out; omega)
   clear hN
   go_wp2_with fail
   have HG2 := Aside0.mk (blk_alloc HG1.out (.cells #[.int .i64 k, .int .u64 x, .int .u64 v, .int .i64 l] 33))
   have HS2 := Aside0.mk (Kd.S_step (w1 := w1.alloc (.cells #[.int .i64 k, .int .u64 x, .int .u64 v, .int .i64 l] 33)) (Kd.S_elderB HS1.out w1.heap.size (Nat.le_refl _)) (fun q hq hl => blk_same1 _ hl))
   have HR2 := Aside0.mk (Kd.R_alloc HR1.out (.cells #[.int .i64 k, .int .u64 x, .int .u64 v, .int .i64 l] 33))
   have HB2 := Aside0.mk (below_alloc1 HB1.out HL1.out (.cells #[.int .i64 k, .int .u64 x, .int .u64 v, .int .i64 l] 33))
   have HP2 := Aside0.mk (blk_new w1 (.cells #[.int .i64 k, .int .u64 x, .int .u64 v, .int .i64 l] 33))
   have HSZ2 := Aside0.mk (alloc_size1 w1 (.cells #[.int .i64 k, .int .u64 x, .int .u64 v, .int .i64 l] 33))
   clear HG1 HS1 HR1 HB1 c5 c7
   generalize w1.alloc (.cells #[.int .i64 k, .int .u64 x, .int .u64 v, .int .i64 l] 33) = w2 at *
   have hgr := grow_T a b c d e l0 (.slice Ao l0.length co) pv false dn N B g w2 HG2.out _ HS2.out HGE.out (by have := HN.out; have := HT2.out; omega) (fun q hq => ⟨trivial, by have := HSZ2.out; omega⟩)
   refine hgr.mono ?_
   rintro e_ w3 ⟨rfl, ov', hG3, hS3, hB3, hK3, hZ3⟩
   have HR3 := Aside0.mk (R_keepT HR2.out hK3 HG2.out)
   have HP3 := Aside0.mk (hK3 _ _ _ HP2.out (by decide) (fun e_ => absurd (blk_lt HG2.out) (by have h5 := HP2.out; rw [e_] at h5; rw [HG2.out] at h5; injection h5 with h5; injection h5 with _ h5; cases h5)))
   have HG3 := Aside0.mk hG3
   have HS3 := Aside0.mk hS3
   have HB3 := Aside0.mk (below_trans HB2.out hB3)
   have HPN := Aside0.mk (show w1.heap.size < w3.heap.size from blk_lt HP3.out)
   clear hgr hG3 hS3 hB3 hK3 hZ3 HG2 HS2 HR2 HB2 HP2
   obtain ⟨go, cg, eg, hge, hgl, cur, hcur⟩ := Kd.S_form HS3.out (by rw [HLG.out]; have := HN.out; have := HT2.out; omega)
   subst eg
   have HS4 := HS3.out
   rw [HLG.out] at HS4
   have HS3T := Aside0.mk (Kd.S_mono HS4 (fun _ _ => trivial : ∀ k_, _ → (fun _ => True) k_))
   have HG4 := HG3.out
   rw [HLG.out] at HG4
   obtain ⟨okx, Ax, cx, hx1, hf1, hRx, hfx, hox, hput⟩ := lend_op HS4 th HT2.out.1 (by have := HN.out; omega)
   have HG3 := Aside0.mk HG4
   have HPUT := Aside0.mk hput
   have HRX := Aside0.mk hRx
   have HOX := Aside0.mk hox
   have HFX := Aside0.mk hfx
   have HO := Aside0.mk hcur
   have HGEO := Aside0.mk hge
   have HGO := Aside0.mk (show g ≠ go from blk_ne HG3.out hcur (by decide))
   have hc5 : w3.cell? ⟨g, 5, none⟩ = some (.slice (some ⟨go, 0, none⟩) N cg) := (blk_cell HG3.out 5).trans rfl
   obtain ⟨xs, hxs⟩ : ∃ xs, xs = (growL l0 N).getD th.toNat [] := ⟨_, rfl⟩
   rw [← hxs] at hx1 hput HPUT HRX
   have hV := HV.out
   rw [← hxs] at hV
   have HV := Aside0.mk hV
   clear hV
   have HXL := Aside0.mk (show xs.length ≤ 64 by
    rw [hxs, List.getD_eq_getElem?_getD]
    rcases hq : (growL l0 N)[th.toNat]? with _ | y
    ·simp
    ·have hm := List.mem_of_getElem? hq
     unfold growL at hm
     rcases List.mem_append.1 hm with hm | hm
     ·exact HRW.out y hm
     ·rw [List.eq_of_mem_replicate hm]; simp)
   have p0 := eq_true HT2.out.1
   have p1 := eq_true (show th < (N : Int) by have := HN.out; omega)
   have p2 := eq_true (show th.toNat < N by have := HN.out; have := HT2.out; omega)
   clear hRx hox hfx hcur hput HG4 HS4 HS3 hxs
   by_cases h64 : xs.length = 64
   ·have HV2 := Aside0.mk (HV.out.trans (if_pos h64))
    clear HV
    have z1 : ((xs.length : Int) == 64) = true := by simp [h64]
    have z2 := eq_true h64
    clear h64
    go_wp2_with fail
    go_ret
    exact ⟨by rw [HV2.out]; rfl, by rw [HV2.out]; exact ⟨_, _, HG3.out, HS3T.out, HR3.out⟩, HB3.out⟩
   ·have HV2 := Aside0.mk (HV.out.trans (if_neg h64))
    have z1 : ((xs.length : Int) == 64) = false := beq_eq_false_iff_ne.mpr (by omega)
    have z2 := eq_false h64
    have z3 := eq_false (show ¬ (xs.length : Int) = 64 by omega)
    clear HV h64
    go_wp2_with fail
    have HCUR := Aside0.mk (show cur[th.toNat]? = some (.slice Ax xs.length cx) from (cell_of_row w3 go th.toNat cur 72 (0, 0) HO.out).symm.trans hx1)
    refine start_ (n := 19) (S := fun w' => w'.cell? ⟨g, 5, none⟩ = some (.slice (some ⟨go, 0, none⟩) N cg) ∧ w'.cell? ⟨go, th.toNat, none⟩ = some (.slice Ax xs.length cx) ∧ w'.heap[w1.heap.size]? = some (.cells #[.int .i64 k, .int .u64 x, .int .u64 v, .int .i64 l] 33 (0, 0))) (ds := [18]) #[false, false, false, false, false, false, false, false, false, false, false, false, false, false, false, false, false, false, false] (by kernel_rfl) rfl rfl ⟨hc5, hx1, blk_drew HP3.out⟩ (fun hHeld => ?_)
    refine pure_ (i := 0) (N := some 52) (v := ?_) (a' := ?_) #[true, false, false, false, false, false, false, false, false, false, false, false, false, false, false, false, false, false, false] rfl rfl (by kernel_rfl) (fun _ _ _ h => h) (Or.inl ⟨by rfl, ?_⟩) ?_ ?_
    rotate_left
    ·intro w'
     go_simp
     with_reducible rfl
    rotate_left
    ·simp only [Act.put, List.setIfInBounds_toArray, List.set_cons_zero, List.set_cons_succ, i64_w, i32_w]
     rfl
    refine pure_ (i := 1) (N := some 53) (v := ?_) (a' := ?_) #[true, true, false, false, false, false, false, false, false, false, false, false, false, false, false, false, false, false, false] rfl rfl (by kernel_rfl) (fun _ _ _ h => h) (Or.inl ⟨by rfl, ?_⟩) ?_ ?_
    rotate_left
    ·intro w'
     go_simp
     with_reducible rfl
    rotate_left
    ·simp only [Act.put, List.setIfInBounds_toArray, List.set_cons_zero, List.set_cons_succ, i64_w, i32_w]
     rfl
    refine pure_ (i := 2) (N := some 54) (v := ?_) (a' := ?_) #[true, true, true, false, false, false, false, false, false, false, false, false, false, false, false, false, false, false, false] rfl rfl (by kernel_rfl) (fun _ _ _ h => h) (Or.inl ⟨by rfl, ?_⟩) ?_ ?_
    rotate_left
    ·intro w'
     go_simp
     with_reducible rfl
    rotate_left
    ·simp only [Act.put, List.setIfInBounds_toArray, List.set_cons_zero, List.set_cons_succ, i64_w, i32_w]
     rfl
    refine pure_ (i := 3) (N := some 55) (v := ?_) (a' := ?_) #[true, true, true, true, false, false, false, false, false, false, false, false, false, false, false, false, false, false, false] rfl rfl (by kernel_rfl) (fun _ _ _ h => h) (Or.inl ⟨by rfl, ?_⟩) ?_ ?_
    rotate_left
    ·intro w'
     go_simp
     with_reducible rfl
    rotate_left
    ·simp only [Act.put, List.setIfInBounds_toArray, List.set_cons_zero, List.set_cons_succ, i64_w, i32_w]
     rfl
    refine pure_ (i := 5) (N := some 57) (v := ?_) (a' := ?_) #[true, true, true, true, false, true, false, false, false, false, false, false, false, false, false, false, false, false, false] rfl rfl (by kernel_rfl) (fun _ _ _ h => h) (Or.inl ⟨by rfl, ?_⟩) ?_ ?_
    rotate_left
    ·intro w'
     go_simp
     with_reducible rfl
    rotate_left
    ·simp only [Act.put, List.setIfInBounds_toArray, List.set_cons_zero, List.set_cons_succ, i64_w, i32_w]
     rfl
    refine pure_ (i := 6) (N := some 58) (v := ?_) (a' := ?_) #[true, true, true, true, false, true, true, false, false, false, false, false, false, false, false, false, false, false, false] rfl rfl (by kernel_rfl) (fun _ _ _ h => h) (Or.inl ⟨by rfl, ?_⟩) ?_ ?_
    rotate_left
    ·intro w'
     go_simp
     with_reducible rfl
    rotate_left
    ·simp only [Act.put, List.setIfInBounds_toArray, List.set_cons_zero, List.set_cons_succ, i64_w, i32_w]
     rfl
    refine pure_ (i := 7) (N := some 59) (v := ?_) (a' := ?_) #[true, true, true, true, false, true, true, true, false, false, false, false, false, false, false, false, false, false, false] rfl rfl (by kernel_rfl) (fun _ _ _ h => h) (Or.inl ⟨by rfl, ?_⟩) ?_ ?_
    rotate_left
    ·intro w'
     go_simp
     with_reducible rfl
    rotate_left
    ·simp only [Act.put, List.setIfInBounds_toArray, List.set_cons_zero, List.set_cons_succ, i64_w, i32_w]
     rfl
    refine pure_ (i := 8) (N := some 60) (v := ?_) (a' := ?_) #[true, true, true, true, false, true, true, true, true, false, false, false, false, false, false, false, false, false, false] rfl rfl (by kernel_rfl) (fun _ _ _ h => h) (Or.inl ⟨by rfl, ?_⟩) ?_ ?_
    rotate_left
    ·intro w'
     go_simp
     with_reducible rfl
    rotate_left
    ·simp only [Act.put, List.setIfInBounds_toArray, List.set_cons_zero, List.set_cons_succ, i64_w, i32_w]
     rfl
    refine pure_ (i := 9) (N := some 61) (v := ?_) (a' := ?_) #[true, true, true, true, false, true, true, true, true, true, false, false, false, false, false, false, false, false, false] rfl rfl (by kernel_rfl) (fun _ _ _ h => h) (Or.inl ⟨by rfl, ?_⟩) ?_ ?_
    rotate_left
    ·intro w'
     go_simp
     with_reducible rfl
    rotate_left
    ·simp only [Act.put, List.setIfInBounds_toArray, List.set_cons_zero, List.set_cons_succ, i64_w, i32_w]
     rfl
    refine pure_ (i := 11) (N := some 63) (v := ?_) (a' := ?_) #[true, true, true, true, false, true, true, true, true, true, false, true, false, false, false, false, false, false, false] rfl rfl (by kernel_rfl) (fun _ _ _ h => h) (Or.inl ⟨by rfl, ?_⟩) ?_ ?_
    rotate_left
    ·intro w'
     go_simp
     with_reducible rfl
    rotate_left
    ·simp only [Act.put, List.setIfInBounds_toArray, List.set_cons_zero, List.set_cons_succ, i64_w, i32_w]
     rfl
    refine take_ (i := 4) (N := some 56) (v := ?_) (a' := ?_) #[true, true, true, true, true, true, true, true, true, true, false, true, false, false, false, false, false, false, false] rfl rfl (by kernel_rfl) (fun _ _ _ h => h) (Or.inl ⟨by rfl, ?_⟩) hHeld ?_ ?_
    rotate_left
    ·rintro w' ⟨s0, s1, s2⟩
     go_simp
     with_reducible rfl
    rotate_left
    ·simp only [Act.put, List.setIfInBounds_toArray, List.set_cons_zero, List.set_cons_succ, i64_w, i32_w]
     rfl
    refine take_ (i := 10) (N := some 62) (v := ?_) (a' := ?_) #[true, true, true, true, true, true, true, true, true, true, true, true, false, false, false, false, false, false, false] rfl rfl (by kernel_rfl) (fun _ _ _ h => h) (Or.inl ⟨by rfl, ?_⟩) hHeld ?_ ?_
    rotate_left
    ·rintro w' ⟨s0, s1, s2⟩
     go_simp
     with_reducible rfl
    rotate_left
    ·simp only [Act.put, List.setIfInBounds_toArray, List.set_cons_zero, List.set_cons_succ, i64_w, i32_w]
     rfl
    refine pure_ (i := 12) (N := some 64) (v := ?_) (a' := ?_) #[true, true, true, true, true, true, true, true, true, true, true, true, true, false, false, false, false, false, false] rfl rfl (by kernel_rfl) (fun _ _ _ h => h) (Or.inl ⟨by rfl, ?_⟩) ?_ ?_
    rotate_left
    ·intro w'
     go_simp
     with_reducible rfl
    rotate_left
    ·simp only [Act.put, List.setIfInBounds_toArray, List.set_cons_zero, List.set_cons_succ, i64_w, i32_w]
     rfl
    refine take_ (i := 13) (N := some 65) (v := ?_) (a' := ?_) #[true, true, true, true, true, true, true, true, true, true, true, true, true, true, false, false, false, false, false] rfl rfl (by kernel_rfl) (fun _ _ _ h => h) (Or.inl ⟨by rfl, ?_⟩) hHeld ?_ ?_
    rotate_left
    ·rintro w' ⟨s0, s1, s2⟩
     go_simp
     with_reducible rfl
    rotate_left
    ·simp only [Act.put, List.setIfInBounds_toArray, List.set_cons_zero, List.set_cons_succ, i64_w, i32_w]
     rfl
    refine take_ (i := 14) (N := some 66) (v := ?_) (a' := ?_) #[true, true, true, true, true, true, true, true, true, true, true, true, true, true, true, false, false, false, false] rfl rfl (by kernel_rfl) (fun _ _ _ h => h) (Or.inl ⟨by rfl, ?_⟩) hHeld ?_ ?_
    rotate_left
    ·rintro w' ⟨s0, s1, s2⟩
     refine exec_load_row 33 (.tmp 6) ?_ _ ?_ 33 #[.int .i64 k, .int .u64 x, .int .u64 v, .int .i64 l] (0, 0) _ s2 Tryd.underlying33 rfl (by kernel_rfl) <;> rfl
    rotate_left
    ·simp only [Act.put, List.setIfInBounds_toArray, List.set_cons_zero, List.set_cons_succ, i64_w, i32_w]
     rfl
    refine one_ (i := 15) (N := some 67) #[true, true, true, true, true, true, true, true, true, true, true, true, true, true, true, true, false, false, false] rfl rfl (by kernel_rfl) (by decide) (fun K hK => ?_)
    refine value_ (w1 := ?_) (v := ?_) (by rfl) rfl ?_ ?_
    rotate_left 2
    ·go_simp
     constructor
     ·rfl
     ·rfl
    refine hK.out _ _ ⟨(blk_cell (blk_alloc (blk_drew HG3.out) _) 5).trans rfl, (blk_cell (blk_alloc (blk_drew HO.out) _) _).trans HCUR.out, blk_alloc (blk_drew HP3.out) _⟩ (fun hHeld => ?_)
    clear hK K
    refine norm_ (a' := ?_) ?_ ?_
    rotate_left
    ·show Act.put _ (some 67) _ = _
     simp only [Act.put, List.setIfInBounds_toArray, List.set_cons_zero, List.set_cons_succ, i64_w, i32_w]
     rfl
    refine one_ (i := 16) (N := some 68) #[true, true, true, true, true, true, true, true, true, true, true, true, true, true, true, true, true, false, false] rfl rfl (by kernel_rfl) (by decide) (fun K hK => ?_)
    refine Kd.R_append_step k33 (w0 := w) B (by rfl) (.tmp 65) (.tmp 67) 72 33 (.agg #[.int .i64 0, .int .u64 0, .int .u64 0, .int .i64 0]) 32 rfl Tryd.underlying72 infoO rfl (by decide) (by omega) (.slice Ax xs.length cx) xs (⟨k, x, v, l⟩ : S33) [.int .i64 k, .int .u64 x, .int .u64 v, .int .i64 l] okx (fun _ => False) rfl rfl ?aP (fun _ hk => hk.elim) ?aF (Kd.R_drew HRX.out) (below_drew HB3.out) ?aS ?aL ?_
    case aP => exact k33_mkM _ _ _ (⟨k, x, v, l⟩ : S33)
    case aF => exact fun q hq => HFX.out q hq ⟨trivial, by have := HPN.out; have h9 : w3.heap.size ≤ q := hq; omega⟩
    case aS => have := blk_lt HG3.out; have := HGE.out; show B ≤ w3.heap.size; omega
    case aL => have := HXL.out; omega
    intro v1 w5 ho hb hgr hat
    have HR5 := Aside0.mk ho
    have HB5 := Aside0.mk hb
    have HG5 := Aside0.mk (blk_grown (blk_drew HG3.out) hgr (Kd.R_ne (Kd.R_drew HRX.out) (blk_drew HG3.out) (by decide)))
    have HO5 := Aside0.mk (blk_grown (blk_drew HO.out) hgr (fun e_ => (HOX.out go (HRX.out.1 go e_.symm)).1 rfl))
    have HP5 := Aside0.mk (blk_grown (blk_drew HP3.out) hgr (fun e_ => (HOX.out _ (HRX.out.1 _ e_.symm)).2.2 rfl))
    have HPI5 := Aside0.mk (Kd.R_step (Kd.R_mono (Kd.R_bound HR3.out) (fun q hq => hq.2.2.2)) (fun q hq hl => hgr.block q hl (fun e_ => by obtain ⟨t_, ht_, c_, hc_⟩ := hq; obtain ⟨c2_, hc2_⟩ := Kd.R_typed HRX.out q e_.symm; rw [hc_] at hc2_; injection hc2_ with hc2_; injection hc2_ with _ hc2_; subst hc2_; exact absurd ht_ (by simp [Kd.int, Kd.scalar]))))
    have HPUT5 := Aside0.mk (HPUT.out w5 v1 _ (fun q hl hne => hgr.block q hl hne) ho)
    obtain ⟨Av, cv, ev⟩ := Kd.R_slice HR5.out
    simp only [List.length_append, List.length_cons, List.length_nil, Nat.zero_add] at ev
    subst ev
    clear ho hb hgr hat
    refine hK.out _ _ ⟨(blk_cell HG5.out 5).trans rfl, (blk_cell HO5.out _).trans HCUR.out, HP5.out⟩ (fun hHeld => ?_)
    clear hK K
    refine norm_ (a' := ?_) ?_ ?_
    rotate_left
    ·show Act.put _ (some 68) _ = _
     simp only [Act.put, List.setIfInBounds_toArray, List.set_cons_zero, List.set_cons_succ, i64_w, i32_w]
     rfl
    refine pure_ (i := 17) (N := some 69) (v := ?_) (a' := ?_) #[true, true, true, true, true, true, true, true, true, true, true, true, true, true, true, true, true, true, false] rfl rfl (by kernel_rfl) (fun _ _ _ h => h) (Or.inl ⟨by rfl, ?_⟩) ?_ ?_
    rotate_left
    ·intro w'
     go_simp
     with_reducible rfl
    rotate_left
    ·simp only [Act.put, List.setIfInBounds_toArray, List.set_cons_zero, List.set_cons_succ, i64_w, i32_w]
     rfl
    refine last_ (i := 18) (N := none) #[true, true, true, true, true, true, true, true, true, true, true, true, true, true, true, true, true, true, true] rfl rfl (by kernel_rfl) (by decide) (fun K hK => ?_)
    have hy1 : w5.cell? ⟨go, th.toNat, none⟩ = some (.slice Ax xs.length cx) := (blk_cell HO5.out _).trans HCUR.out
    have hy2 := blk_frozen HO5.out th.toNat
    refine skip_ (w1 := ?_) (by rfl) rfl ?_ ?_
    rotate_left
    ·go_simp
     rfl
    clear hy1 hy2
    refine hK.out _ _ ?_
    clear hK K
    refine done_ (by kernel_rfl) ?_
    go_wp2_with fail
    go_ret
    exact ⟨by rw [HV2.out]; rfl, by rw [HV2.out]; exact ⟨_, _, blk_far HG5.out HGO.out _, Kd.S_mono HPUT5.out (fun _ _ => trivial), Kd.R_mono (Kd.R_set HPI5.out HO5.out ints_ne2 _ _) (fun _ _ => trivial)⟩, Below.setCell HB5.out (p := ⟨go, th.toNat, none⟩) HGEO.out _⟩
end Go.Proofs.YtinmmnljicmppaaDoor.PTaleApart
namespace Go.Proofs.YtinmmnljicmppaaDoor.PTaleApart
open Go Go.RowKit Go.Proofs.YtinmmnljicmppaaDoorW.PrintWords Go.Proofs.YtinmmnljicmppaaDoorW.PrintLast Go.Proofs.YtinmmnljicmppaaDoorW.PrintMore Go.Proofs.YtinmmnljicmppaaDoor.Str
set_option linter.unusedVariables false
set_option linter.unusedSimpArgs false
def cutW (line : ByteArray) : ByteArray := ⟨(Lib.cut line.data.toList [32]).1.toArray⟩
def cutR (line : ByteArray) : ByteArray := ⟨(Lib.cut line.data.toList [32]).2.1.toArray⟩
def RS.lineS (s : RS) (line : ByteArray) : RS × Bool :=
 if s.a = 0 then ({ s with a := (readConfV line).1.1, b := (readConfV line).1.2.1, c := (readConfV line).1.2.2.1, d := (readConfV line).1.2.2.2.1, e := (readConfV line).1.2.2.2.2 }, (readConfV line).2 == 0)
 else if s.done = true then (s, false)
 else if cutW line = ⟨#[116, 104, 114, 101, 97, 100, 115]⟩ then s.countS (smallP (cutR line).data.toList)
 else if cutW line = ⟨#[112, 105, 99, 107, 115]⟩ then ({ s with picks := (readPicksV line).1, done := true }, decide ((readPicksV line).2 = 0 ∧ 0 < (readPicksV line).1.length ∧ Lib.maxOf (readPicksV line).1 < (s.ops.length : Int)))
 else s.opS line
theorem cutf_eq (line : ByteArray) (h : line.size ≤ 4000000000) : strings_Cut.f line (⟨#[32]⟩ : ByteArray) = some (cutW line, cutR line, (Lib.cut line.data.toList [32]).2.2) := by
 unfold strings_Cut.f
 rw [if_pos (by omega)]
 rfl
theorem cut_le32 (l : List UInt8) : (Lib.cut l [32]).1.length ≤ l.length ∧ (Lib.cut l [32]).2.1.length ≤ l.length := by
 rcases idx_cases 32 l with ⟨_, h⟩ | ⟨a, b, rfl, h, _⟩
 ·rw [cut_miss 32 l h]; simp
 ·rw [cut_hit 32 a b h]; simp; omega
theorem cutR_le (line : ByteArray) : (cutR line).size ≤ line.size := by
 have h := (cut_le32 line.data.toList).2
 have h3 : line.data.toList.length = line.size := by rw [Array.length_toList]; rfl
 show (Lib.cut line.data.toList [32]).2.1.toArray.size ≤ _
 rw [List.size_toArray]; omega
theorem rpEnd_len (line : ByteArray) (acc : List Int) (h : acc.length ≤ 262144) : (rpEnd line acc).1.length ≤ 262144 := by
 unfold rpEnd
 split
 ·exact h
 ·simp
theorem rpV_len (line : ByteArray) : ∀ (ws : List ByteArray) (acc : List Int), acc.length ≤ 262144 → (rpV line ws acc).1.length ≤ 262144
 | [], acc, h => by unfold rpV; exact rpEnd_len line acc h
 | w :: r, acc, h => by
  unfold rpV
  split
  ·simp
  ·exact rpV_len line r _ (by rw [List.length_append, List.length_replicate]; omega)
theorem readPicks_len (line : ByteArray) : (readPicksV line).1.length ≤ 262144 := rpV_len line _ [] (by simp)
end Go.Proofs.YtinmmnljicmppaaDoor.PTaleApart
