/-
A reference to who a slot is is never stale, one to who it was always is: the law answers true, whatever its arguments are.
-/
import Derived.Test.YtlpnggapndokeaaWords
import Derived.Test.YtlpnggapndokeaaGhostAw
import Derived.Test.YtlpnggapndokeaaGhostKinds
namespace Go.Proofs.Ytlpnggapndokeaa.PIdealKeeps
open Go Go.RowKit Go.Proofs.YtlpnggapndokeaaW.PrintWords Go.Proofs.YtlpnggapndokeaaW.PrintLast Go.Proofs.YtlpnggapndokeaaW.PrintMore Go.Proofs.Ytlpnggapndokeaa.M Go.Proofs.Ytlpnggapndokeaa.U
attribute [local go_sem] max2_int min2_int max_two min_two max_three min_three max_four min_four
set_option linter.unusedVariables false
set_option linter.unusedSimpArgs false
/-- Nothing was ever stale, and no slot is anybody not born. -/
structure Fresh (G : GSt) (i : Int) : Prop where
  stale : G.stale = 0
  faults : G.faults = 0
  row : (G.row.length : Int) ≤ i
  now : ∀ s, (get G.now s).getD 0 ≤ (G.row.length : Int)
theorem fresh0 : Fresh G0 0 := ⟨rfl, rfl, Int.le_refl _, fun s => Int.le_refl _⟩
theorem Fresh.rest {G : GSt} {i : Int} (h : Fresh G i) : Fresh G (i + 1) := ⟨h.stale, h.faults, by have := h.row; omega, h.now⟩
theorem Fresh.born {G : GSt} {i : Int} (h : Fresh G i) (sl : Int) : Fresh (gbornG G sl) (i + 1) := by
  have hr := h.row
  refine ⟨h.stale, h.faults, ?_, fun s => ?_⟩
  · show ((bornRow G.row sl).length : Int) ≤ i + 1
    unfold bornRow
    split
    · omega
    · rw [List.length_append, List.length_singleton]; omega
  · show (get (bornNow G.now G.row sl) s).getD 0 ≤ ((bornRow G.row sl).length : Int)
    have hn := h.now s
    unfold bornNow bornRow
    by_cases e : sl < 1
    · rw [if_pos e, if_pos e]; exact hn
    · rw [if_neg e, if_neg e, M.get_put, List.length_append, List.length_singleton]
      by_cases e2 : s = sl
      · rw [if_pos e2]
        show (G.row.length : Int) + 1 ≤ ((G.row.length + 1 : Nat) : Int)
        omega
      · rw [if_neg e2]; omega
set_option maxHeartbeats 16000000 in
set_option maxRecDepth 100000 in
theorem fresh08T (A0_ : Option Addr) (c0 : Nat) (xs : List S70) (slot part : Int) (w : World) (hr0 : Kd.C k70 w A0_ xs.length xs) (hc0 : xs.length ≤ c0) :
    Calls Try.prog 7 #[.slice A0_ xs.length c0, .int .i64 slot, .int .i64 part] w fun e w' => e = .returned (.bool true) ∧ Below w.heap.size w w' := by
  have hu25 := Try.underlying25
  have hu28 := Try.underlying28
  have hu23 := Try.underlying23
  have hu67 := Try.underlying67
  have hu70 := Try.underlying70
  have hf2 : ∀ (a b : Int) (c : Bool) W, (Instr.field 28 (.agg #[.int .u64 a, .int .i64 b, .bool c]) 2).run Try.prog W = .ok (.bool c) W := fun _ _ _ _ => by kernel_rfl
  have HR := Aside0.mk hr0
  have HC := Aside0.mk hc0
  clear hr0 hc0
  go_enter Try.func7, Try.ntmps7
  go_wp2_with fail
  refine (awake08_T w).mono ?_
  rintro e w1 ⟨rfl, hb⟩
  have B1 := Aside0.mk hb
  clear hb
  go_wp2_with fail
  refine (gnew_T w1).mono ?_
  rintro e w2 ⟨gg, gp, gc, gm, gl, gs, g3, rfl, h1, h2⟩
  have I := Aside0.mk (h1.rebase (w0 := w) B1.out.size)
  have B := Aside0.mk (below_step B1.out h2)
  clear h1 h2 B1
  go_wp2_with fail
  go_loopg [8] xs.length (fun kq v8 w' => ∃ (i : Int) (G : GSt), v8 = .int .i64 i ∧ Aside0 (0 ≤ i ∧ i ≤ 100 ∧ i + kq = xs.length) ∧ Aside0 (GhostIs w w' gg gp gc gm gl gs g3 G) ∧ Aside0 (Below w.heap.size w w') ∧ Aside0 (Fresh G i))
  case atStart => exact ⟨0, G0, rfl, ⟨by omega⟩, I, B, ⟨fresh0⟩⟩
  case round =>
    clear I B
    obtain ⟨i, G, rfl, HK, I, B, F⟩ := hrel
    by_cases hi : i < (xs.length : Int) ∧ i < 100
    · have t1 : decide (i < (xs.length : Int)) = true := decide_eq_true hi.1
      have t2 : decide (i < 100) = true := decide_eq_true hi.2
      have p0 : (0 : Int) ≤ i := HK.out.1
      have q0 : i < (xs.length : Int) := hi.1
      have q1 := Aside0.mk hi.2
      clear hi
      obtain ⟨ko, rfl⟩ : ∃ m, gk = m + 1 := ⟨gk - 1, by have := HK.out; omega⟩
      obtain ⟨ad, e0, hx0, _, hx2, _⟩ := at_T70 HR.out i p0 q0
      cases e0
      replace hx0 := (B.out.cell (World.block_lt_of_cell? w _ hx0)).trans hx0
      replace hx2 := (B.out.cell (World.block_lt_of_cell? w _ hx2)).trans hx2
      generalize (xs.getD i.toNat z70).f0 = kd at hx0
      generalize (xs.getD i.toNat z70).f1.f0.f1 = sl at hx2
      have p0b : decide (0 ≤ i) = true := decide_eq_true p0
      have wi : wrap64 (i + 1) = i + 1 := by have := q1.out; unfold wrap64; omega
      have LR := Aside0.mk (show G.row.length ≤ 100000 by have := F.out.row; have := q1.out; omega)
      have RI := Aside0.mk (show i + 1 ≤ 100 ∧ 0 ≤ i by have := q1.out; have := HK.out; omega)
      replace p0 := eq_true p0
      replace q0 := eq_true q0
      by_cases k6 : kd = 6
      · subst k6
        go_wp2_with fail
        refine (gborn_T gg gp gc gm gl gs g3 G sl w _ I.out B.out LR.out).mono ?_
        rintro e w5 ⟨rfl, h1, h2, h3⟩
        have R1 := Aside0.mk h1
        have R2 := Aside0.mk h2
        have R4 := Aside0.mk (F.out.born sl)
        clear h1 h2 h3 hx0 hx2
        go_wp2_with fail
        go_roundg ko
        case rel => exact ⟨i + 1, _, by first | rfl | rw [wi], ⟨by have := HK.out; have := RI.out; omega⟩, R1, R2, R4⟩
        case measure => exact Nat.lt_succ_self _
      · have u6 : (kd == 6) = false := beq_eq_false_iff_ne.mpr k6
        clear k6
        have R1 := I
        have R2 := B
        have R4 := Aside0.mk F.out.rest
        go_wp2_with fail
        go_roundg ko
        case rel => exact ⟨i + 1, _, by first | rfl | rw [wi], ⟨by have := HK.out; have := RI.out; omega⟩, R1, R2, R4⟩
        case measure => exact Nat.lt_succ_self _
    · have tt : decide (i < (xs.length : Int)) = false ∨ (decide (i < (xs.length : Int)) = true ∧ decide (i < 100) = false) := by
        by_cases h : i < (xs.length : Int)
        · exact .inr ⟨decide_eq_true h, decide_eq_false (fun h2 => hi ⟨h, h2⟩)⟩
        · exact .inl (decide_eq_false h)
      clear hi
      obtain ⟨id, hid⟩ : ∃ n, (get G.now slot).getD 0 = n := ⟨_, rfl⟩
      have HID := Aside0.mk hid
      have SR := Aside0.mk (show staleR G 5 slot id = false by unfold staleR; rw [hid]; simp)
      have LR := Aside0.mk (show G.row.length ≤ 100000 by have := F.out.row; have := HK.out; omega)
      clear hid
      rcases tt with t1 | ⟨t1, t2⟩
      all_goals
        have GAW := Aside0.mk (show w.heap.size ≤ wr.heap.size from B.out.size)
        have In := Aside0.mk (I.out.alloc (.cells #[.int .i64 5, .int .i64 slot, .int .i64 part, .int .i64 0] 25))
        have Bn := Aside0.mk (below_alloc B.out (.cells #[.int .i64 5, .int .i64 slot, .int .i64 part, .int .i64 0] 25))
        have GA := Aside0.mk (blk_new wr (.cells #[.int .i64 5, .int .i64 slot, .int .i64 part, .int .i64 0] 25))
        clear I B 
        have I := In
        clear In
        have B := Bn
        clear Bn
        go_wp2_with fail
        generalize wr.alloc (.cells #[.int .i64 5, .int .i64 slot, .int .i64 part, .int .i64 0] 25) = w3 at *
        generalize wr.heap.size = ga at *
        refine (gsouls_T gg gp gc gm gl gs g3 G w _ I.out).mono ?_
        rintro e w4 ⟨rfl, rfl⟩
        obtain ⟨sv, hsv⟩ := I.out.soul
        have SV := Aside0.mk hsv
        clear hsv
        go_wp2_with fail
        refine (soulNow_T gs g3 sv G.now G.row slot w _ SV.out).mono ?_
        rintro e w5 ⟨rfl, hb⟩
        rw [HID.out]
        have GAn := Aside0.mk (blk_below GA.out hb)
        have In := Aside0.mk (I.out.below hb)
        have Bn := Aside0.mk (below_step B.out hb)
        clear hb I B GA
        have I := In
        clear In
        have B := Bn
        clear Bn
        have GA := GAn
        clear GAn
        have z3 : w5.cell? ⟨ga, 3, none⟩ = some (.int .i64 0) := (blk_cell GA.out 3).trans rfl
        have y3 := blk_frozen GA.out 3
        have In := Aside0.mk (I.out.far GA.out (by decide) (by decide) (by decide) (by decide) (by decide) 3 (.int .i64 id))
        have Bn := Aside0.mk (B.out.setCell (p := ⟨ga, 3, none⟩) GAW.out (.int .i64 id))
        have GAn := Aside0.mk (blk_put (cs' := #[.int .i64 5, .int .i64 slot, .int .i64 part, .int .i64 id]) GA.out 3 (.int .i64 id) rfl)
        clear I B GA
        have I := In
        have B := Bn
        have GA := GAn
        clear In Bn GAn
        have a0 : (w5.setCell ⟨ga, 3, none⟩ (.int .i64 id)).cell? ⟨ga, 0, none⟩ = some (.int .i64 5) := (blk_cell GA.out 0).trans rfl
        have a1 : (w5.setCell ⟨ga, 3, none⟩ (.int .i64 id)).cell? ⟨ga, 1, none⟩ = some (.int .i64 slot) := (blk_cell GA.out 1).trans rfl
        have a2 : (w5.setCell ⟨ga, 3, none⟩ (.int .i64 id)).cell? ⟨ga, 2, none⟩ = some (.int .i64 part) := (blk_cell GA.out 2).trans rfl
        have a3 : (w5.setCell ⟨ga, 3, none⟩ (.int .i64 id)).cell? ⟨ga, 3, none⟩ = some (.int .i64 id) := (blk_cell GA.out 3).trans rfl
        go_wp2_with fail
        clear a0 a1 a2 a3
        clear z3 y3
        generalize w5.setCell ⟨ga, 3, none⟩ (.int .i64 id) = w6 at *
        refine (gload_T gg gp gc gm gl gs g3 G 5 slot part id w w6 I.out B.out).mono ?_
        rintro e w7 ⟨rfl, h1, h2, h3⟩
        rw [SR.out]
        have GAn := Aside0.mk (I.out.stays h3 GA.out (by decide) (by decide) (by decide) (by decide))
        have In := Aside0.mk h1
        have Bn := Aside0.mk h2
        clear h1 h2 h3 I B GA
        have I := In
        clear In
        have B := Bn
        clear Bn
        have GA := GAn
        clear GAn
        obtain ⟨H, hH⟩ : ∃ H, gloadG G (5, slot, part) id = H := ⟨_, rfl⟩
        have hst : H = { G with p := cloadC G.p } := by
          rw [← hH]
          unfold gloadG
          rw [show staleR G ((5, slot, part) : K3).1 ((5, slot, part) : K3).2.1 id = false from SR.out]
          rfl
        have V1 := Aside0.mk (show H.stale = 0 by rw [hst]; exact F.out.stale)
        have V2 := Aside0.mk (show H.faults = 0 by rw [hst]; exact F.out.faults)
        have V3 := Aside0.mk (show staleR H 5 slot id = false by rw [hst]; exact SR.out)
        have V4 := Aside0.mk (show H.now = G.now ∧ H.row = G.row by rw [hst]; exact ⟨rfl, rfl⟩)
        have V5 := Aside0.mk (show GhostIs w w7 gg gp gc gm gl gs g3 H from hH ▸ I.out)
        clear I hH hst
        have I := V5
        clear V5
        go_wp2_with fail
        have IH := I
        refine (gstale_T gg gp gc gm gl gs g3 H w w7 I.out).mono ?_
        rintro e w8 ⟨rfl, rfl⟩
        rw [V1.out]
        have a0 : w8.cell? ⟨ga, 0, none⟩ = some (.int .i64 5) := (blk_cell GA.out 0).trans rfl
        have a1 : w8.cell? ⟨ga, 1, none⟩ = some (.int .i64 slot) := (blk_cell GA.out 1).trans rfl
        have a2 : w8.cell? ⟨ga, 2, none⟩ = some (.int .i64 part) := (blk_cell GA.out 2).trans rfl
        have a3 : w8.cell? ⟨ga, 3, none⟩ = some (.int .i64 id) := (blk_cell GA.out 3).trans rfl
        go_wp2_with fail
        clear a0 a1 a2 a3
        refine (gstore_T gg gp gc gm gl gs g3 H 5 slot part id 1 0 false w _ I.out B.out).mono ?_
        rintro e w9 ⟨rfl, h1, h2, h3⟩
        have GAn := Aside0.mk (I.out.stays h3 GA.out (by decide) (by decide) (by decide) (by decide))
        have In := Aside0.mk h1
        have Bn := Aside0.mk h2
        clear h1 h2 h3 I B GA
        have I := In
        clear In
        have B := Bn
        clear Bn
        have GA := GAn
        clear GAn
        have OC := Aside0.mk (show Once H.p.m from IH.out.plain.cells.once)
        clear IH
        obtain ⟨Q, hQ⟩ : ∃ Q, gstoreG H (5, slot, part) id 1 0 false = Q := ⟨_, rfl⟩
        have Q1 := Aside0.mk (show Q.stale = 0 by rw [← hQ]; exact V1.out)
        have Q2 := Aside0.mk (show Q.faults = 0 by
          rw [← hQ]
          show (if (false || staleR H 5 slot id) = true then wrap64 (H.faults + 1) else H.faults) = 0
          rw [V3.out]
          exact V2.out)
        have Q3 := Aside0.mk (show getw Q.p.m (5, slot, part) = 1 ∧ Once Q.p.m by
          rw [← hQ]
          show getw (wput H.p.m (5, slot, part) 1) (5, slot, part) = 1 ∧ Once (wput H.p.m (5, slot, part) 1)
          exact ⟨by rw [getw_wput OC.out, if_pos rfl], once_wput OC.out _ _⟩)
        have Q4 := Aside0.mk (show Q.now = G.now ∧ Q.row = G.row by rw [← hQ]; exact V4.out)
        have In := Aside0.mk (show GhostIs w w9 gg gp gc gm gl gs g3 Q from hQ ▸ I.out)
        clear I hQ
        have I := In
        clear In
        go_wp2_with fail
        refine (gfaults_T gg gp gc gm gl gs g3 Q w w9 I.out).mono ?_
        rintro e w10 ⟨rfl, rfl⟩
        rw [Q2.out]
        go_wp2_with fail
        by_cases hs : slot < 1
        · have ts : decide (slot < 1) = true := decide_eq_true hs
          refine (gborn_T gg gp gc gm gl gs g3 Q slot w _ I.out B.out (by rw [Q4.out.2]; exact LR.out)).mono ?_
          rintro e w11 ⟨rfl, h1, h2, h3⟩
          rw [show bornId Q.row slot = 0 from if_pos hs]
          have GAn := Aside0.mk (I.out.stays h3 GA.out (by decide) (by decide) (by decide) (by decide))
          have In := Aside0.mk h1
          have Bn := Aside0.mk h2
          clear h1 h2 h3 I B GA
          have I := In
          clear In
          have B := Bn
          clear Bn
          have GA := GAn
          clear GAn
          have Z2 := Aside0.mk (show (gbornG Q slot).faults = 0 from Q2.out)
          clear hs
          go_wp2_with fail
          refine (gfaults_T gg gp gc gm gl gs g3 _ w w11 I.out).mono ?_
          rintro e w12 ⟨rfl, rfl⟩
          rw [Z2.out]
          go_wp2_with fail
          go_ret
          exact ⟨rfl, B.out⟩
        · have bid : bornId Q.row slot = (G.row.length : Int) + 1 := by unfold bornId; rw [if_neg hs, Q4.out.2]
          have tb : (((G.row.length : Int) + 1) == 0) = false := beq_eq_false_iff_ne.mpr (by omega)
          have BN := Aside0.mk bid
          refine (gborn_T gg gp gc gm gl gs g3 Q slot w _ I.out B.out (by rw [Q4.out.2]; exact LR.out)).mono ?_
          rintro e w11 ⟨rfl, h1, h2, h3⟩
          rw [bid]
          have GAn := Aside0.mk (I.out.stays h3 GA.out (by decide) (by decide) (by decide) (by decide))
          have In := Aside0.mk h1
          have Bn := Aside0.mk h2
          clear h1 h2 h3 I B GA
          have I := In
          clear In
          have B := Bn
          clear Bn
          have GA := GAn
          clear GAn
          obtain ⟨P, hP⟩ : ∃ P, gbornG Q slot = P := ⟨_, rfl⟩
          have P1 := Aside0.mk (show P.stale = 0 by rw [← hP]; exact Q1.out)
          have P2 := Aside0.mk (show P.faults = 0 by rw [← hP]; exact Q2.out)
          have P3 := Aside0.mk (show getw P.p.m (5, slot, part) = 1 ∧ Once P.p.m by rw [← hP]; exact Q3.out)
          have P4 := Aside0.mk (show staleR P 5 slot id = true by
            rw [← hP]
            unfold staleR
            show ((5 : Int) == 5 && (get (bornNow Q.now Q.row slot) slot).getD 0 != id) = true
            unfold bornNow
            rw [if_neg hs, M.get_put, if_pos rfl, Q4.out.2]
            have := F.out.now slot
            rw [HID.out] at this
            have h2 : (G.row.length : Int) + 1 ≠ id := by omega
            simp [h2])
          have In := Aside0.mk (show GhostIs w w11 gg gp gc gm gl gs g3 P from hP ▸ I.out)
          clear I hP bid hs Q1 Q2 Q3
          have I := In
          clear In
          have a0 : w11.cell? ⟨ga, 0, none⟩ = some (.int .i64 5) := (blk_cell GA.out 0).trans rfl
          have a1 : w11.cell? ⟨ga, 1, none⟩ = some (.int .i64 slot) := (blk_cell GA.out 1).trans rfl
          have a2 : w11.cell? ⟨ga, 2, none⟩ = some (.int .i64 part) := (blk_cell GA.out 2).trans rfl
          have a3 : w11.cell? ⟨ga, 3, none⟩ = some (.int .i64 id) := (blk_cell GA.out 3).trans rfl
          go_wp2_with fail
          clear a0 a1 a2 a3
          obtain ⟨ld, hld⟩ : ∃ n, (get P.leads (5, slot, part)).getD 0 = n := ⟨_, rfl⟩
          have HLD := Aside0.mk hld
          clear hld
          refine (gload_T gg gp gc gm gl gs g3 P 5 slot part id w _ I.out B.out).mono ?_
          rintro e w12 ⟨rfl, h1, h2, h3⟩
          rw [P3.out.1, HLD.out, P4.out]
          have GAn := Aside0.mk (I.out.stays h3 GA.out (by decide) (by decide) (by decide) (by decide))
          have In := Aside0.mk h1
          have Bn := Aside0.mk h2
          clear h1 h2 h3 I B GA
          have I := In
          clear In
          have B := Bn
          clear Bn
          have GA := GAn
          clear GAn
          obtain ⟨R, hR⟩ : ∃ R, gloadG P (5, slot, part) id = R := ⟨_, rfl⟩
          have hst : R = { { P with p := cloadC P.p } with stale := wrap64 (P.stale + 1) } := by
            rw [← hR]
            unfold gloadG
            rw [show staleR P ((5, slot, part) : K3).1 ((5, slot, part) : K3).2.1 id = true from P4.out]
            rfl
          have R1 := Aside0.mk (show R.stale = 1 by rw [hst]; show wrap64 (P.stale + 1) = 1; rw [P1.out]; unfold wrap64; omega)
          have R2 := Aside0.mk (show R.faults = 0 by rw [hst]; exact P2.out)
          have R3 := Aside0.mk (show cswapR R.p (5, slot, part) 1 = true by rw [hst]; exact decide_eq_true P3.out.1)
          have R4 := Aside0.mk (show staleR R 5 slot id = true by rw [hst]; exact P4.out)
          have In := Aside0.mk (show GhostIs w w12 gg gp gc gm gl gs g3 R from hR ▸ I.out)
          clear I hR hst
          have I := In
          clear In
          have In := Aside0.mk (I.out.alloc (.cells #[.int .u64 1, .int .i64 ld, .bool true] 28))
          have Bn := Aside0.mk (below_alloc B.out (.cells #[.int .u64 1, .int .i64 ld, .bool true] 28))
          have GAn := Aside0.mk (blk_alloc GA.out (.cells #[.int .u64 1, .int .i64 ld, .bool true] 28))
          have GV := Aside0.mk (blk_new w12 (.cells #[.int .u64 1, .int .i64 ld, .bool true] 28))
          clear I B GA
          have I := In
          clear In
          have B := Bn
          clear Bn
          have GA := GAn
          clear GAn
          have a0 : (w12.alloc (.cells #[.int .u64 1, .int .i64 ld, .bool true] 28)).cell? ⟨ga, 0, none⟩ = some (.int .i64 5) := (blk_cell GA.out 0).trans rfl
          have a1 : (w12.alloc (.cells #[.int .u64 1, .int .i64 ld, .bool true] 28)).cell? ⟨ga, 1, none⟩ = some (.int .i64 slot) := (blk_cell GA.out 1).trans rfl
          have a2 : (w12.alloc (.cells #[.int .u64 1, .int .i64 ld, .bool true] 28)).cell? ⟨ga, 2, none⟩ = some (.int .i64 part) := (blk_cell GA.out 2).trans rfl
          have a3 : (w12.alloc (.cells #[.int .u64 1, .int .i64 ld, .bool true] 28)).cell? ⟨ga, 3, none⟩ = some (.int .i64 id) := (blk_cell GA.out 3).trans rfl
          go_wp2_with fail
          clear a0 a1 a2 a3
          generalize w12.alloc (.cells #[.int .u64 1, .int .i64 ld, .bool true] 28) = w13 at *
          generalize w12.heap.size = gv at *
          refine (gswap_T gg gp gc gm gl gs g3 R 5 slot part id 1 0 2 0 false false w w13 I.out B.out).mono ?_
          rintro e w14 ⟨rfl, h1, h2, h3⟩
          rw [R3.out]
          have GAn := Aside0.mk (I.out.stays h3 GA.out (by decide) (by decide) (by decide) (by decide))
          have GVn := Aside0.mk (I.out.stays h3 GV.out (by decide) (by decide) (by decide) (by decide))
          have In := Aside0.mk h1
          have Bn := Aside0.mk h2
          clear h1 h2 h3 I B GA GV
          have I := In
          clear In
          have B := Bn
          clear Bn
          have GA := GAn
          clear GAn
          have GV := GVn
          clear GVn
          obtain ⟨X, hX⟩ : ∃ X, gswapG R (5, slot, part) id 1 2 0 (false || false) = X := ⟨_, rfl⟩
          have hst : X = leadG { R with p := cswapC R.p (5, slot, part) 1 2 } (5, slot, part) id 0 (false || false) := by
            rw [← hX]
            unfold gswapG
            rw [if_pos R3.out]
          have X1 := Aside0.mk (show X.stale = 1 by rw [hst]; exact R1.out)
          have X2 := Aside0.mk (show X.faults = 1 by
            rw [hst]
            show (if ((false || false) || staleR R 5 slot id) = true then wrap64 (R.faults + 1) else R.faults) = 1
            rw [R4.out, Bool.or_true, if_pos rfl, R2.out]
            unfold wrap64
            omega)
          have In := Aside0.mk (show GhostIs w w14 gg gp gc gm gl gs g3 X from hX ▸ I.out)
          clear I hX hst
          have I := In
          clear In
          have v0 : w14.cell? ⟨gv, 0, none⟩ = some (.int .u64 1) := (blk_cell GV.out 0).trans rfl
          have v1 : w14.cell? ⟨gv, 1, none⟩ = some (.int .i64 ld) := (blk_cell GV.out 1).trans rfl
          have v2 : w14.cell? ⟨gv, 2, none⟩ = some (.bool true) := (blk_cell GV.out 2).trans rfl
          go_wp2_with fail
          clear v0 v1 v2
          refine (gfaults_T gg gp gc gm gl gs g3 X w w14 I.out).mono ?_
          rintro e w15 ⟨rfl, rfl⟩
          rw [X2.out]
          go_wp2_with fail
          refine (gstale_T gg gp gc gm gl gs g3 X w _ I.out).mono ?_
          rintro e w15 ⟨rfl, rfl⟩
          rw [X1.out]
          go_wp2_with fail
          go_ret
          exact ⟨rfl, B.out⟩
def revenantlaw08_GhostFresh.f (xs : List S70) (slot part : Int) : Option Bool := some true
theorem revenantlaw08_GhostFresh.calls (A0_ : Option Addr) (c0 : Nat) (xs : List S70) (slot part : Int) (r : Bool) (w : World) (hr0 : Kd.C k70 w A0_ xs.length xs) (hc0 : xs.length ≤ c0) (h : revenantlaw08_GhostFresh.f xs slot part = some r) :
    Calls Try.prog 7 #[.slice A0_ xs.length c0, .int .i64 slot, .int .i64 part] w fun e w' => e = .returned (.bool r) ∧ Below w.heap.size w w' := by
  obtain rfl := Option.some.inj h
  exact fresh08T A0_ c0 xs slot part w hr0 hc0
theorem RGhostFresh (xs : List S70) (slot part : Int) {P Q R : Prop} (_ : P) (_ : Q) (_ : R) : revenantlaw08_GhostFresh.f xs slot part = some true := rfl
end Go.Proofs.Ytlpnggapndokeaa.PIdealKeeps

