/-
The pairs of a state, in order; whether a state is the document's.
-/
import Derived.WalkSpells
import Derived.Test.YtcphmelmieedfabSpecG
import Derived.Test.YtcphmelmieedfabPSpecExactx4
namespace Go.Proofs.Ytcphmelmieedfab.PSpecExact
open Go Go.RowKit Go.Proofs.YtcphmelmieedfabW.PrintWords Go.Proofs.YtcphmelmieedfabW.PrintLast Go.Proofs.YtcphmelmieedfabW.PrintMore
attribute [local go_sem] max2_int min2_int max_two min_two max_three min_three max_four min_four
set_option linter.unusedVariables false
set_option linter.unusedSimpArgs false
theorem infoC26 : (Try.prog.info? 26).map (fun i => (i.zero, i.size, i.bytes)) = some (some (.agg #[(.int .u64 0), (.int .u64 0)]), 2, 16) := by kernel_rfl
theorem C_none {α : Type} {d : Kd α} {w : World} {n : Nat} {xs : List α} (h : Kd.C d w none n xs) : n = 0 ∧ xs = [] := by
  rcases Nat.eq_zero_or_pos n with h0 | h0
  · have := h.1
    exact ⟨h0, List.length_eq_zero_iff.1 (by omega)⟩
  · obtain ⟨ad, h, _⟩ := h.2.2 h0
    cases h
theorem R_empty {α : Type} (d : Kd α) (e : Nat) (W : World) (ok : Nat → Prop) (hf : ok W.heap.size) : d.R e (W.alloc (.cells #[] e)) W.heap.size ok (.slice (some ⟨W.heap.size, 0, none⟩) 0 0) [] := by
  refine ⟨fun k hk => ?_, [], ?_, Reps.none _ _⟩
  · have : W.heap.size = k := by simpa [Value.ownBlock] using hk
    subst this
    exact hf
  · have h2 := World.ownsRow_lit (base := W.heap.size) (e := e) (size := d.sz) W #[] 0 (Nat.le_refl _) (by simp [maxLen]) (by simp)
    simpa using h2
def cloneP.f (l0 : List S26) : Option (List S26) := if l0.length ≤ 4398046511104 then some l0 else none
set_option maxHeartbeats 8000000 in
set_option maxRecDepth 100000 in
theorem cloneP.calls (A0 : Option Addr) (c0 : Nat) (l0 : List S26) (r : List S26) (w : World) (hr0 : Kd.C k26 w A0 l0.length l0) (hc0 : l0.length ≤ c0) (h : cloneP.f l0 = some r) :
    Calls Try.prog 27 #[.slice A0 l0.length c0] w fun e w' => ∃ v0_ : Value, e = .returned (v0_) ∧ Kd.R k26 26 w' w.heap.size (fun _ => True) v0_ r ∧ Below w.heap.size w w' := by
  unfold cloneP.f at h
  by_cases hl : l0.length ≤ 4398046511104
  · rw [if_pos hl] at h
    obtain rfl := Option.some.inj h
    have HL := Aside0.mk hl
    have HC := Aside0.mk hc0
    clear h hl hc0
    have hq := Lib.run_eql_slice_nil (P := Try.prog) (t := 46) (e := 26) (h := Try.underlying46)
    cases A0 with
    | none =>
      obtain ⟨h0, rfl⟩ := C_none hr0
      clear hr0
      go_enter Try.func27, Try.ntmps27
      go_wp2_with fail
      go_ret
      exact ⟨_, rfl, Kd.R_nil _ _ _ _ _, Below.refl _ _⟩
    | some ad =>
      have HR := Aside0.mk hr0
      clear hr0
      go_enter Try.func27, Try.ntmps27
      go_wp2_with (first | ((with_reducible refine gate_builtin (b := .append) (xs := #[.tmp 5, .tmp 6]) rfl ?_); at_builtin; refine Kd.R_append_rows k26 (w0 := w) w.heap.size rfl (.tmp 5) (.tmp 6) 46 26 (.agg #[(.int .u64 0), (.int .u64 0)]) 16 rfl Try.underlying46 infoC26 rfl (by decide) (by omega) (.slice (some ⟨w.heap.size, 0, none⟩) 0 0) [] l0 _ _ _ (fun _ => True) (fun _ => False) rfl rfl ?aO ?aR (fun _ _ h => h) (fun _ h => h.elim) ?aF ?aB ?aS ?aL ?_; (case aO => exact R_empty k26 26 w _ trivial); (case aR => exact Kd.C_below HR.out (below_alloc (Below.refl _ _) _)); (case aF => exact fun _ _ => trivial); (case aB => exact below_alloc (Below.refl _ _) _); (case aS => exact (below_alloc (Below.refl w.heap.size w) _).size); (case aL => exact (by have := HL.out; simp only [List.length_nil]; omega)); intro v1 w1 R1 B1 G1 O1))
      go_ret
      rw [List.nil_append] at R1
      exact ⟨_, rfl, R1, B1⟩
  · rw [if_neg hl] at h
    cases h
theorem C_state {W : World} {g : Nat} {l : List S26} (hg : W.heap[g]? = some (.cells (SV l) 29 (0, 0))) (hl : l.length ≤ 16) : Kd.C k26 W (some ⟨g, 1, none⟩) l.length l := by
  refine ⟨rfl, by omega, fun _ => ⟨⟨g, 1, none⟩, rfl, fun j p hj => ⟨[.int .u64 p.f0, .int .u64 p.f1], rfl, ⟨[.int .u64 p.f0], [.int .u64 p.f1], rfl, rfl, rfl⟩, fun i u hu => ?_⟩⟩⟩
  have hj2 : j < l.length := (List.getElem?_eq_some_iff.1 hj).1
  have ek : kOf l j = p.f0 := by unfold kOf; rw [List.getD_eq_getElem?_getD, hj]; rfl
  have ev : vOf l j = p.f1 := by unfold vOf; rw [List.getD_eq_getElem?_getD, hj]; rfl
  have hw : ∀ d, (⟨g, 1, none⟩ : Addr).add d = ⟨g, 1 + d, none⟩ := fun d => by unfold Addr.add; split <;> simp_all
  match i with
  | 0 =>
    have : Value.int .u64 p.f0 = u := by simpa using hu
    subst this
    rw [hw, cell_of_row W g _ _ _ _ hg, ← ek, ← SV_k l (by omega : j < 16)]
    congr 1
    show 1 + (j * 2 + 0) = _
    omega
  | 1 =>
    have : Value.int .u64 p.f1 = u := by simpa using hu
    subst this
    rw [hw, cell_of_row W g _ _ _ _ hg, ← ev, ← SV_v l (by omega : j < 16)]
    congr 1
    show 1 + (j * 2 + 1) = _
    omega
  | i + 2 => simp at hu
theorem sl_low (g b : Nat) (hb : b ≤ 16) (W : World) : (Instr.sliceAt 27 (.pointer (some ⟨g, 1, none⟩)) none (some (.int .i64 (b : Int))) none).run Try.prog W = .ok (.slice (some ⟨g, 1, none⟩) b 16) W := by
  rw [run_sliceAt_array_h W 27 ⟨g, 1, none⟩ arr27 .i64 (b : Int) (by omega) (by rw [len27]; omega), size27, len27]
  have e : (⟨g, 1, none⟩ : Addr).add 0 = ⟨g, 1, none⟩ := by unfold Addr.add; split <;> simp_all
  simp [slicedAt, e, Result.andThen]
set_option maxHeartbeats 8000000 in
set_option maxRecDepth 100000 in
theorem list_T (l : List S26) (w : World) (hl : l.length ≤ 16) :
    Calls Try.prog 23 #[.agg (SV l)] w fun e w' => ∃ v : Value, e = .returned v ∧ Kd.R k26 26 w' w.heap.size (fun _ => True) v l ∧ Below w.heap.size w w' := by
  have hu29 := Try.underlying29
  have hu27 := Try.underlying27
  have HL := Aside0.mk hl
  have BK := Aside0.mk (blk_new w (.cells (SV l) 29))
  have B1 := Aside0.mk (below_alloc (Below.refl w.heap.size w) (.cells (SV l) 29))
  have hs := sl_low w.heap.size l.length hl (w.alloc (.cells (SV l) 29))
  have c0 : (w.alloc (.cells (SV l) 29)).cell? ⟨w.heap.size, 0, none⟩ = some (.int .i64 l.length) := (blk_cell BK.out 0).trans (SV_0 l)
  clear hl
  go_enter Try.func23, Try.ntmps23
  go_wp2_with fail
  refine (cloneP.calls (some ⟨w.heap.size, 1, none⟩) 16 l l _ (C_state BK.out HL.out) HL.out (by unfold cloneP.f; rw [if_pos (by have := HL.out; omega)])).mono ?_
  rintro e w2 ⟨v, rfl, hR, hb⟩
  have R2 := Aside0.mk hR
  have B2 := Aside0.mk (below_step B1.out hb)
  clear hR hb
  go_wp2_with fail
  go_ret
  exact ⟨_, rfl, Kd.R_lower R2.out (by simp), B2.out⟩
set_option maxHeartbeats 8000000 in
set_option maxRecDepth 100000 in
theorem len_T (l : List S26) (w : World) : Calls Try.prog 25 #[.agg (SV l)] w fun e w' => e = .returned (.int .i64 l.length) ∧ Below w.heap.size w w' := by
  have hu29 := Try.underlying29
  have BK := Aside0.mk (blk_new w (.cells (SV l) 29))
  have B1 := Aside0.mk (below_alloc (Below.refl w.heap.size w) (.cells (SV l) 29))
  have c0 : (w.alloc (.cells (SV l) 29)).cell? ⟨w.heap.size, 0, none⟩ = some (.int .i64 l.length) := (blk_cell BK.out 0).trans (SV_0 l)
  go_enter Try.func25, Try.ntmps25
  go_wp2_with fail
  go_ret
  exact ⟨rfl, B1.out⟩
end Go.Proofs.Ytcphmelmieedfab.PSpecExact

namespace Go.Proofs.Ytcphmelmieedfab.PSpecExact
open Go Go.RowKit Go.Proofs.YtcphmelmieedfabW.PrintWords Go.Proofs.YtcphmelmieedfabW.PrintLast Go.Proofs.YtcphmelmieedfabW.PrintMore
attribute [local go_sem] max2_int min2_int max_two min_two max_three min_three max_four min_four
set_option linter.unusedVariables false
set_option linter.unusedSimpArgs false
def c57 (p : S26) : S57 := ⟨p.f0, p.f1⟩
theorem rd_map (l : List S26) (i : Int) (h : i.toNat < l.length) : rd_T57 (l.map c57) i = c57 (l.getD i.toNat ⟨0, 0⟩) := by
  unfold rd_T57
  rw [List.getD_eq_getElem?_getD, List.getD_eq_getElem?_getD, List.getElem?_map, List.getElem?_eq_getElem h]
  rfl
set_option maxHeartbeats 8000000 in
set_option maxRecDepth 100000 in
theorem alike_T (l : List S26) (A : Option Addr) (c : Nat) (ul : List S57) (k : Nat) (w : World) (hl : l.length ≤ 16) (hC : Kd.C k57 w A ul.length ul) (hc : ul.length ≤ c) (hS : revenantref21_State_Sorted.f k ul = some (l.map c57)) :
    Calls Try.prog 13 #[.agg (SV l), .agg #[.slice A ul.length c]] w fun e w' => e = .returned (.bool true) ∧ Below w.heap.size w w' := by
  have hu29 := Try.underlying29
  have hu32 := Try.underlying32
  have HL := Aside0.mk hl
  have HC := Aside0.mk hC
  have HCC := Aside0.mk hc
  have HSS := Aside0.mk hS
  clear hl hC hc hS
  have L_S := Aside0.mk (show w.heap.size ≤ w.heap.size from Nat.le_refl _)
  have L_U := Aside0.mk (show w.heap.size ≤ w.heap.size + 1 from by have := L_S.out; omega)
  have NE_S_U := Aside0.mk (show w.heap.size ≠ w.heap.size + 1 by omega)
  have S_1 := Aside0.mk (blk_alloc (blk_new w (.cells (SV l) 29)) (.cells (#[.slice A ul.length c]) 32))
  have U_2 := Aside0.mk (blk_new2 w (.cells (SV l) 29) (.cells (#[.slice A ul.length c]) 32))
  have B3 := Aside0.mk (below_alloc (below_alloc (Below.refl w.heap.size w) (.cells (SV l) 29)) (.cells (#[.slice A ul.length c]) 32))
  go_enter Try.func13, Try.ntmps13
  go_wp2_with (first
    | (refine wpList_load_row_g (by rfl) 29 (.tmp 2) rfl (w.heap.size) rfl 29 (SV l) (0, 0) _ S_1.out Try.underlying29 rfl (info29 _) ?_))
  refine (list_T l _ HL.out).mono ?_
  rintro e_ w2 ⟨v1, rfl, hR1, hb⟩
  have S_4 := Aside0.mk (blk_below S_1.out hb)
  have U_5 := Aside0.mk (blk_below U_2.out hb)
  have B6 := Aside0.mk (below_step B3.out hb)
  clear hb S_1 U_2 B3
  obtain ⟨A1, c1, rfl, hc1, hC1⟩ := Kd.R_reads hR1
  have HC1 := Aside0.mk hC1
  clear hR1 hC1
  go_wp2_with (first
    | (refine wpList_load_row_g (by rfl) 32 (.tmp 3) rfl (w.heap.size + 1) rfl 32 (#[.slice A ul.length c]) (0, 0) _ U_5.out Try.underlying32 rfl (by kernel_rfl) ?_))
  refine (revenantref21_State_Sorted.calls k A c ul (l.map c57) _ (Kd.C_below HC.out B6.out) HCC.out HSS.out).mono ?_
  rintro e_ w3 ⟨v2, rfl, hR2, hb⟩
  have HC1b := Aside0.mk (Kd.C_below HC1.out hb)
  have S_7 := Aside0.mk (blk_below S_4.out hb)
  have U_8 := Aside0.mk (blk_below U_5.out hb)
  have B9 := Aside0.mk (below_step B6.out hb)
  clear hb S_4 U_5 B6
  obtain ⟨A2, c2, e2, hc2, hC2⟩ := Kd.R_reads hR2
  rw [List.length_map] at e2
  subst e2
  have HC2 := Aside0.mk (show Kd.C k57 w3 A2 l.length (l.map c57) from by have := hC2; rwa [List.length_map] at this)
  clear hR2 hC2 hc2 HC1
  go_wp2_with (first
    | (refine wpList_load_row_g (by rfl) 29 (.tmp 2) rfl (w.heap.size) rfl 29 (SV l) (0, 0) _ S_7.out Try.underlying29 rfl (info29 _) ?_))
  refine (len_T l _).mono ?_
  rintro e_ w4 ⟨rfl, hb⟩
  have HC1 := Aside0.mk (Kd.C_below HC1b.out hb)
  have HC2c := Aside0.mk (Kd.C_below HC2.out hb)
  clear HC1b HC2
  have B10 := Aside0.mk (below_step B9.out hb)
  clear hb
  go_wp2_with fail
  go_loopg [7] l.length (fun kq v7 w' => ∃ (i : Int), v7 = .int .i64 i ∧ Aside0 (0 ≤ i ∧ i + kq = l.length) ∧ Aside0 (Below w4.heap.size w4 w'))
  case atStart => exact ⟨0, rfl, ⟨by omega⟩, ⟨Below.refl _ _⟩⟩
  case round =>
    obtain ⟨i, rfl, HK, HB⟩ := hrel
    by_cases hi : i < (l.length : Int)
    · have t1 : decide (i < (l.length : Int)) = true := decide_eq_true hi
      have p0 : (0 : Int) ≤ i := HK.out.1
      have q0 : i < (l.length : Int) := hi
      have q1 := Aside0.mk (show 0 ≤ i ∧ i < (l.length : Int) from ⟨p0, hi⟩)
      obtain ⟨ko, rfl⟩ : ∃ m, gk = m + 1 := ⟨gk - 1, by have := HK.out; omega⟩
      obtain ⟨ad, e0, hx0, hx1⟩ := k26_cells HC1.out i p0 hi
      obtain ⟨ae, e1, hy0, hy1⟩ := at_T57 HC2c.out i p0 hi
      rw [rd_map l i (by omega)] at hy0 hy1
      subst e0 e1
      replace hx0 := (HB.out.cell (World.block_lt_of_cell? w4 _ hx0)).trans hx0
      replace hx1 := (HB.out.cell (World.block_lt_of_cell? w4 _ hx1)).trans hx1
      replace hy0 := (HB.out.cell (World.block_lt_of_cell? w4 _ hy0)).trans hy0
      replace hy1 := (HB.out.cell (World.block_lt_of_cell? w4 _ hy1)).trans hy1
      simp only [c57] at hy0 hy1
      generalize l.getD i.toNat ⟨0, 0⟩ = p at *
      obtain ⟨y, z⟩ := p
      have dx0 : wr.drew.cell? (ad.add (i.toNat * 2)) = some (.int .u64 y) := hx0
      have dx1 : wr.drew.cell? ⟨(ad.add (i.toNat * 2)).block, (ad.add (i.toNat * 2)).off + 1, none⟩ = some (.int .u64 z) := hx1
      have dy0 : wr.drew.cell? (ae.add (i.toNat * 2)) = some (.int .u64 y) := hy0
      have dy1 : wr.drew.cell? ⟨(ae.add (i.toNat * 2)).block, (ae.add (i.toNat * 2)).off + 1, none⟩ = some (.int .u64 z) := hy1
      clear hx0 hx1 hy0 hy1 hi
      have te : (y != y) = false := by simp
      have te2 : (z != z) = false := by simp
      have p0b : decide (0 ≤ i) = true := decide_eq_true p0
      have wi : wrap64 (i + 1) = i + 1 := by have := q1.out; have := HL.out; unfold wrap64; omega
      replace p0 := eq_true p0
      replace q0 := eq_true q0
      go_wp2_with fail
      refine start_ (n := 24) (S := fun w' => w'.cell? (ad.add (i.toNat * 2)) = some (.int .u64 y) ∧ w'.cell? ⟨(ad.add (i.toNat * 2)).block, (ad.add (i.toNat * 2)).off + 1, none⟩ = some (.int .u64 z) ∧ w'.cell? (ae.add (i.toNat * 2)) = some (.int .u64 y) ∧ w'.cell? ⟨(ae.add (i.toNat * 2)).block, (ae.add (i.toNat * 2)).off + 1, none⟩ = some (.int .u64 z)) (ds := []) #[false, false, false, false, false, false, false, false, false, false, false, false, false, false, false, false, false, false, false, false, false, false, false, false] (by kernel_rfl) rfl rfl ⟨dx0, dx1, dy0, dy1⟩ (fun hHeld => ?_)
      refine pure_ (i := 0) (N := some 30) (v := ?_) (a' := ?_) #[true, false, false, false, false, false, false, false, false, false, false, false, false, false, false, false, false, false, false, false, false, false, false, false] rfl rfl (by kernel_rfl) (fun _ _ _ h => h) (Or.inl ⟨by rfl, ?_⟩) ?_ ?_
      rotate_left
      · intro w'
        go_simp
        with_reducible rfl
      rotate_left
      · simp only [Act.put, List.setIfInBounds_toArray, List.set_cons_zero, List.set_cons_succ, i64_w, i32_w]
        rfl
      refine pure_ (i := 1) (N := some 31) (v := ?_) (a' := ?_) #[true, true, false, false, false, false, false, false, false, false, false, false, false, false, false, false, false, false, false, false, false, false, false, false] rfl rfl (by kernel_rfl) (fun _ _ _ h => h) (Or.inl ⟨by rfl, ?_⟩) ?_ ?_
      rotate_left
      · intro w'
        go_simp
        with_reducible rfl
      rotate_left
      · simp only [Act.put, List.setIfInBounds_toArray, List.set_cons_zero, List.set_cons_succ, i64_w, i32_w]
        rfl
      refine pure_ (i := 2) (N := some 32) (v := ?_) (a' := ?_) #[true, true, true, false, false, false, false, false, false, false, false, false, false, false, false, false, false, false, false, false, false, false, false, false] rfl rfl (by kernel_rfl) (fun _ _ _ h => h) (Or.inl ⟨by rfl, ?_⟩) ?_ ?_
      rotate_left
      · intro w'
        go_simp
        with_reducible rfl
      rotate_left
      · simp only [Act.put, List.setIfInBounds_toArray, List.set_cons_zero, List.set_cons_succ, i64_w, i32_w]
        rfl
      refine pure_ (i := 3) (N := some 33) (v := ?_) (a' := ?_) #[true, true, true, true, false, false, false, false, false, false, false, false, false, false, false, false, false, false, false, false, false, false, false, false] rfl rfl (by kernel_rfl) (fun _ _ _ h => h) (Or.inl ⟨by rfl, ?_⟩) ?_ ?_
      rotate_left
      · intro w'
        go_simp
        with_reducible rfl
      rotate_left
      · simp only [Act.put, List.setIfInBounds_toArray, List.set_cons_zero, List.set_cons_succ, i64_w, i32_w]
        rfl
      refine pure_ (i := 5) (N := some 35) (v := ?_) (a' := ?_) #[true, true, true, true, false, true, false, false, false, false, false, false, false, false, false, false, false, false, false, false, false, false, false, false] rfl rfl (by kernel_rfl) (fun _ _ _ h => h) (Or.inl ⟨by rfl, ?_⟩) ?_ ?_
      rotate_left
      · intro w'
        go_simp
        with_reducible rfl
      rotate_left
      · simp only [Act.put, List.setIfInBounds_toArray, List.set_cons_zero, List.set_cons_succ, i64_w, i32_w]
        rfl
      refine pure_ (i := 6) (N := some 36) (v := ?_) (a' := ?_) #[true, true, true, true, false, true, true, false, false, false, false, false, false, false, false, false, false, false, false, false, false, false, false, false] rfl rfl (by kernel_rfl) (fun _ _ _ h => h) (Or.inl ⟨by rfl, ?_⟩) ?_ ?_
      rotate_left
      · intro w'
        go_simp
        with_reducible rfl
      rotate_left
      · simp only [Act.put, List.setIfInBounds_toArray, List.set_cons_zero, List.set_cons_succ, i64_w, i32_w]
        rfl
      refine pure_ (i := 7) (N := some 37) (v := ?_) (a' := ?_) #[true, true, true, true, false, true, true, true, false, false, false, false, false, false, false, false, false, false, false, false, false, false, false, false] rfl rfl (by kernel_rfl) (fun _ _ _ h => h) (Or.inl ⟨by rfl, ?_⟩) ?_ ?_
      rotate_left
      · intro w'
        go_simp
        with_reducible rfl
      rotate_left
      · simp only [Act.put, List.setIfInBounds_toArray, List.set_cons_zero, List.set_cons_succ, i64_w, i32_w]
        rfl
      refine pure_ (i := 8) (N := some 38) (v := ?_) (a' := ?_) #[true, true, true, true, false, true, true, true, true, false, false, false, false, false, false, false, false, false, false, false, false, false, false, false] rfl rfl (by kernel_rfl) (fun _ _ _ h => h) (Or.inl ⟨by rfl, ?_⟩) ?_ ?_
      rotate_left
      · intro w'
        go_simp
        with_reducible rfl
      rotate_left
      · simp only [Act.put, List.setIfInBounds_toArray, List.set_cons_zero, List.set_cons_succ, i64_w, i32_w]
        rfl
      refine take_ (i := 4) (N := some 34) (v := ?_) (a' := ?_) #[true, true, true, true, true, true, true, true, true, false, false, false, false, false, false, false, false, false, false, false, false, false, false, false] rfl rfl (by kernel_rfl) (fun _ _ _ h => h) (Or.inl ⟨by rfl, ?_⟩) hHeld ?_ ?_
      rotate_left
      · rintro w' ⟨s0, s1, s2, s3⟩
        go_simp
        with_reducible rfl
      rotate_left
      · simp only [Act.put, List.setIfInBounds_toArray, List.set_cons_zero, List.set_cons_succ, i64_w, i32_w]
        rfl
      refine take_ (i := 9) (N := some 39) (v := ?_) (a' := ?_) #[true, true, true, true, true, true, true, true, true, true, false, false, false, false, false, false, false, false, false, false, false, false, false, false] rfl rfl (by kernel_rfl) (fun _ _ _ h => h) (Or.inl ⟨by rfl, ?_⟩) hHeld ?_ ?_
      rotate_left
      · rintro w' ⟨s0, s1, s2, s3⟩
        go_simp
        with_reducible rfl
      rotate_left
      · simp only [Act.put, List.setIfInBounds_toArray, List.set_cons_zero, List.set_cons_succ, i64_w, i32_w]
        rfl
      refine pure_ (i := 10) (N := some 40) (v := ?_) (a' := ?_) #[true, true, true, true, true, true, true, true, true, true, true, false, false, false, false, false, false, false, false, false, false, false, false, false] rfl rfl (by kernel_rfl) (fun _ _ _ h => h) (Or.inl ⟨by rfl, ?_⟩) ?_ ?_
      rotate_left
      · intro w'
        go_simp
        with_reducible rfl
      rotate_left
      · simp only [Act.put, List.setIfInBounds_toArray, List.set_cons_zero, List.set_cons_succ, i64_w, i32_w]
        rfl
      refine pure_ (i := 11) (N := some 41) (v := ?_) (a' := ?_) #[true, true, true, true, true, true, true, true, true, true, true, true, false, false, false, false, false, false, false, false, false, false, false, false] rfl rfl (by kernel_rfl) (fun _ _ _ h => h) (Or.inl ⟨by rfl, ?_⟩) ?_ ?_
      rotate_left
      · intro w'
        go_simp
        with_reducible rfl
      rotate_left
      · simp only [Act.put, List.setIfInBounds_toArray, List.set_cons_zero, List.set_cons_succ, i64_w, i32_w]
        rfl
      refine pure_ (i := 12) (N := some 42) (v := ?_) (a' := ?_) #[true, true, true, true, true, true, true, true, true, true, true, true, true, false, false, false, false, false, false, false, false, false, false, false] rfl rfl (by kernel_rfl) (fun _ _ _ h => h) (Or.inl ⟨by rfl, ?_⟩) ?_ ?_
      rotate_left
      · intro w'
        go_simp
        with_reducible rfl
      rotate_left
      · simp only [Act.put, List.setIfInBounds_toArray, List.set_cons_zero, List.set_cons_succ, i64_w, i32_w]
        rfl
      refine pure_ (i := 13) (N := some 43) (v := ?_) (a' := ?_) #[true, true, true, true, true, true, true, true, true, true, true, true, true, true, false, false, false, false, false, false, false, false, false, false] rfl rfl (by kernel_rfl) (fun _ _ _ h => h) (Or.inl ⟨by rfl, ?_⟩) ?_ ?_
      rotate_left
      · intro w'
        go_simp
        with_reducible rfl
      rotate_left
      · simp only [Act.put, List.setIfInBounds_toArray, List.set_cons_zero, List.set_cons_succ, i64_w, i32_w]
        rfl
      refine pure_ (i := 14) (N := some 44) (v := ?_) (a' := ?_) #[true, true, true, true, true, true, true, true, true, true, true, true, true, true, true, false, false, false, false, false, false, false, false, false] rfl rfl (by kernel_rfl) (fun _ _ _ h => h) (Or.inl ⟨by rfl, ?_⟩) ?_ ?_
      rotate_left
      · intro w'
        go_simp
        with_reducible rfl
      rotate_left
      · simp only [Act.put, List.setIfInBounds_toArray, List.set_cons_zero, List.set_cons_succ, i64_w, i32_w]
        rfl
      refine pure_ (i := 15) (N := some 45) (v := ?_) (a' := ?_) #[true, true, true, true, true, true, true, true, true, true, true, true, true, true, true, true, false, false, false, false, false, false, false, false] rfl rfl (by kernel_rfl) (fun _ _ _ h => h) (Or.inl ⟨by rfl, ?_⟩) ?_ ?_
      rotate_left
      · intro w'
        go_simp
        with_reducible rfl
      rotate_left
      · simp only [Act.put, List.setIfInBounds_toArray, List.set_cons_zero, List.set_cons_succ, i64_w, i32_w]
        rfl
      refine pure_ (i := 17) (N := some 47) (v := ?_) (a' := ?_) #[true, true, true, true, true, true, true, true, true, true, true, true, true, true, true, true, false, true, false, false, false, false, false, false] rfl rfl (by kernel_rfl) (fun _ _ _ h => h) (Or.inl ⟨by rfl, ?_⟩) ?_ ?_
      rotate_left
      · intro w'
        go_simp
        with_reducible rfl
      rotate_left
      · simp only [Act.put, List.setIfInBounds_toArray, List.set_cons_zero, List.set_cons_succ, i64_w, i32_w]
        rfl
      refine pure_ (i := 18) (N := some 48) (v := ?_) (a' := ?_) #[true, true, true, true, true, true, true, true, true, true, true, true, true, true, true, true, false, true, true, false, false, false, false, false] rfl rfl (by kernel_rfl) (fun _ _ _ h => h) (Or.inl ⟨by rfl, ?_⟩) ?_ ?_
      rotate_left
      · intro w'
        go_simp
        with_reducible rfl
      rotate_left
      · simp only [Act.put, List.setIfInBounds_toArray, List.set_cons_zero, List.set_cons_succ, i64_w, i32_w]
        rfl
      refine pure_ (i := 19) (N := some 49) (v := ?_) (a' := ?_) #[true, true, true, true, true, true, true, true, true, true, true, true, true, true, true, true, false, true, true, true, false, false, false, false] rfl rfl (by kernel_rfl) (fun _ _ _ h => h) (Or.inl ⟨by rfl, ?_⟩) ?_ ?_
      rotate_left
      · intro w'
        go_simp
        with_reducible rfl
      rotate_left
      · simp only [Act.put, List.setIfInBounds_toArray, List.set_cons_zero, List.set_cons_succ, i64_w, i32_w]
        rfl
      refine pure_ (i := 20) (N := some 50) (v := ?_) (a' := ?_) #[true, true, true, true, true, true, true, true, true, true, true, true, true, true, true, true, false, true, true, true, true, false, false, false] rfl rfl (by kernel_rfl) (fun _ _ _ h => h) (Or.inl ⟨by rfl, ?_⟩) ?_ ?_
      rotate_left
      · intro w'
        go_simp
        with_reducible rfl
      rotate_left
      · simp only [Act.put, List.setIfInBounds_toArray, List.set_cons_zero, List.set_cons_succ, i64_w, i32_w]
        rfl
      refine take_ (i := 16) (N := some 46) (v := ?_) (a' := ?_) #[true, true, true, true, true, true, true, true, true, true, true, true, true, true, true, true, true, true, true, true, true, false, false, false] rfl rfl (by kernel_rfl) (fun _ _ _ h => h) (Or.inl ⟨by rfl, ?_⟩) hHeld ?_ ?_
      rotate_left
      · rintro w' ⟨s0, s1, s2, s3⟩
        go_simp
        with_reducible rfl
      rotate_left
      · simp only [Act.put, List.setIfInBounds_toArray, List.set_cons_zero, List.set_cons_succ, i64_w, i32_w]
        rfl
      refine take_ (i := 21) (N := some 51) (v := ?_) (a' := ?_) #[true, true, true, true, true, true, true, true, true, true, true, true, true, true, true, true, true, true, true, true, true, true, false, false] rfl rfl (by kernel_rfl) (fun _ _ _ h => h) (Or.inl ⟨by rfl, ?_⟩) hHeld ?_ ?_
      rotate_left
      · rintro w' ⟨s0, s1, s2, s3⟩
        go_simp
        with_reducible rfl
      rotate_left
      · simp only [Act.put, List.setIfInBounds_toArray, List.set_cons_zero, List.set_cons_succ, i64_w, i32_w]
        rfl
      refine pure_ (i := 22) (N := some 52) (v := ?_) (a' := ?_) #[true, true, true, true, true, true, true, true, true, true, true, true, true, true, true, true, true, true, true, true, true, true, true, false] rfl rfl (by kernel_rfl) (fun _ _ _ h => h) (Or.inl ⟨by rfl, ?_⟩) ?_ ?_
      rotate_left
      · intro w'
        go_simp
        with_reducible rfl
      rotate_left
      · simp only [Act.put, List.setIfInBounds_toArray, List.set_cons_zero, List.set_cons_succ, i64_w, i32_w]
        rfl
      refine pure_ (i := 23) (N := some 53) (v := ?_) (a' := ?_) #[true, true, true, true, true, true, true, true, true, true, true, true, true, true, true, true, true, true, true, true, true, true, true, true] rfl rfl (by kernel_rfl) (fun _ _ _ h => h) (Or.inl ⟨by rfl, ?_⟩) ?_ ?_
      rotate_left
      · intro w'
        go_simp
        with_reducible rfl
      rotate_left
      · simp only [Act.put, List.setIfInBounds_toArray, List.set_cons_zero, List.set_cons_succ, i64_w, i32_w]
        rfl
      refine done_ (by kernel_rfl) ?_
      go_wp2_with fail
      go_roundg ko
      case rel => exact ⟨i + 1, by first | rfl | rw [wi], ⟨by have := HK.out; have := q1.out; omega⟩, ⟨below_drew HB.out⟩⟩
      case measure => exact Nat.lt_succ_self _
    · have t1 : decide (i < (l.length : Int)) = false := decide_eq_false hi
      clear hi
      go_wp2_with fail
      go_ret
      exact ⟨rfl, below_step B10.out HB.out⟩
end Go.Proofs.Ytcphmelmieedfab.PSpecExact

