/-
What somebody holds stays: the law answers true, whatever its arguments are.
-/
import Derived.Test.YtlpnggapndokeaaWords
import Derived.Test.YtlpnggapndokeaaIdealAw
import Derived.Test.YtlpnggapndokeaaIdealKinds
namespace Go.Proofs.Ytlpnggapndokeaa.PIdealKeeps
open Go Go.RowKit Go.Proofs.YtlpnggapndokeaaW.PrintWords Go.Proofs.YtlpnggapndokeaaW.PrintLast Go.Proofs.YtlpnggapndokeaaW.PrintMore Go.Proofs.Ytlpnggapndokeaa.M Go.Proofs.Ytlpnggapndokeaa.U
attribute [local go_sem] max2_int min2_int max_two min_two max_three min_three max_four min_four
set_option linter.unusedVariables false
set_option linter.unusedSimpArgs false
theorem ofK_ne {kd sl p id pt : Int} (h : id ≠ 1) : ofK kd sl p id ≠ (5, 0, pt, 1) := by
  unfold ofK
  split
  · intro e
    simp only [Prod.mk.injEq] at e
    exact h e.2.2.2
  · intro e
    simp only [Prod.mk.injEq] at e
    exact absurd e.2.2.2 (by decide)
theorem ofK_me {sl pt : Int} (hP : pt ≥ 0 ∧ pt ≠ 1 ∧ pt ≠ 2) : ofK 5 sl pt 1 = (5, 0, pt, 1) := by
  unfold ofK
  rw [if_pos ⟨rfl, hP.1, hP.2.1, hP.2.2⟩]
theorem isC_f' (sl part : Int) : place_IsContent.f 5 sl part = some (decide (part ≥ 0 ∧ part ≠ 1 ∧ part ≠ 2)) := (show place_IsContent.f 5 sl part = place_IsContent.f 5 0 part from rfl).trans (isC_f part)
/-- What somebody holds, and how many were born. -/
def Holds (A : ISt) (pt wd : Int) (n : Int) : Prop := (get A.words ((5, 0, pt, 1) : K4)).getD 0 = wd ∧ (A.row.length : Int) ≤ n
theorem get_put_ne {m : List (K4 × Int)} {k k' : K4} {v : Int} (h : k' ≠ k) : (get (put m k v) k').getD 0 = (get m k').getD 0 := by rw [M.get_put, if_neg h]
theorem Holds.store {A : ISt} {pt wd n : Int} (h : Holds A pt wd n) {k : K4} (hk : k ≠ (5, 0, pt, 1)) (x y : Int) : Holds (storeA A k x y) pt wd (n + 1) :=
  ⟨(get_put_ne hk.symm).trans h.1, Int.le_trans h.2 (by omega)⟩
theorem Holds.add {A : ISt} {pt wd n : Int} (h : Holds A pt wd n) {k : K4} (hk : k ≠ (5, 0, pt, 1)) (x : Int) : Holds (addA A k x) pt wd (n + 1) :=
  ⟨(get_put_ne hk.symm).trans h.1, Int.le_trans h.2 (by omega)⟩
theorem Holds.swap {A : ISt} {pt wd n : Int} (h : Holds A pt wd n) {k : K4} (hk : k ≠ (5, 0, pt, 1)) (ox x y : Int) : Holds (swapA A k ox x y) pt wd (n + 1) := by
  unfold swapA
  split
  · exact ⟨(get_put_ne hk.symm).trans h.1, Int.le_trans h.2 (by omega)⟩
  · exact ⟨h.1, Int.le_trans h.2 (by omega)⟩
theorem Holds.born {A : ISt} {pt wd n : Int} (h : Holds A pt wd n) (sl : Int) : Holds (bornA A sl) pt wd (n + 1) := by
  refine ⟨h.1, ?_⟩
  show ((bornRow A.row sl).length : Int) ≤ n + 1
  have := h.2
  unfold bornRow
  split
  · omega
  · rw [List.length_append, List.length_singleton]; omega
theorem Holds.rest {A : ISt} {pt wd n : Int} (h : Holds A pt wd n) : Holds A pt wd (n + 1) := ⟨h.1, Int.le_trans h.2 (by omega)⟩
set_option maxHeartbeats 16000000 in
set_option maxRecDepth 100000 in
theorem keeps09T (A0_ : Option Addr) (c0 : Nat) (xs : List S50) (slot part wd : Int) (w : World) (hr0 : Kd.C k50 w A0_ xs.length xs) (hc0 : xs.length ≤ c0) :
    Calls Try.prog 4 #[.slice A0_ xs.length c0, .int .i64 slot, .int .i64 part, .int .u64 wd] w fun e w' => e = .returned (.bool true) ∧ Below w.heap.size w w' := by
  have hu25 := Try.underlying25
  have hu28 := Try.underlying28
  have hu23 := Try.underlying23
  have hu44 := Try.underlying44
  have hu46 := Try.underlying46
  have hu50 := Try.underlying50
  have hf0 : ∀ (a b : Int) (c : Bool) W, (Instr.field 28 (.agg #[.int .u64 a, .int .i64 b, .bool c]) 0).run Try.prog W = .ok (.int .u64 a) W := fun _ _ _ _ => by kernel_rfl
  have hf2 : ∀ (a b : Int) (c : Bool) W, (Instr.field 28 (.agg #[.int .u64 a, .int .i64 b, .bool c]) 2).run Try.prog W = .ok (.bool c) W := fun _ _ _ _ => by kernel_rfl
  have HR := Aside0.mk hr0
  have HC := Aside0.mk hc0
  have HMX := Aside0.mk (Kd.C_max hr0)
  clear hr0 hc0
  have hs1 : 1 ≤ wrap64 (1 + wrap64 ((IntKind.u64.wrap slot).tmod 5)) := by
    have h : 0 ≤ IntKind.u64.wrap slot := by rw [wrapU_mod]; omega
    rw [tmod_pos h]
    unfold wrap64
    omega
  have S1 := Aside0.mk hs1
  have BI := Aside0.mk (show bornId A0.row (wrap64 (1 + wrap64 ((IntKind.u64.wrap slot).tmod 5))) = 1 from if_neg (show ¬ wrap64 (1 + wrap64 ((IntKind.u64.wrap slot).tmod 5)) < 1 by omega))
  clear hs1
  go_enter Try.func4, Try.ntmps4
  go_wp2_with fail
  refine (awake09_T w).mono ?_
  rintro e w1 ⟨rfl, hb⟩
  have B1 := Aside0.mk hb
  clear hb
  go_wp2_with fail
  refine (inew_T w1).mono ?_
  rintro e w2 ⟨gi, g1, g2, gs, g3, rfl, h1, h2⟩
  have I2 := Aside0.mk (h1.rebase (w0 := w) B1.out.size)
  have B2 := Aside0.mk (below_step B1.out h2)
  clear h1 h2 B1
  go_wp2_with fail
  generalize wrap64 (1 + wrap64 ((IntKind.u64.wrap slot).tmod 5)) = s at *
  generalize wrap64 ((IntKind.u64.wrap part).tmod 12) = pt at *
  refine (place_Of.calls s pt 5 s pt w2 rfl).mono ?_
  rintro e w3 ⟨rfl, hb⟩
  have I3 := Aside0.mk ((I2.out.below hb).alloc (.cells #[.int .i64 5, .int .i64 s, .int .i64 pt] 23))
  have B3 := Aside0.mk (below_alloc (below_step B2.out hb) (.cells #[.int .i64 5, .int .i64 s, .int .i64 pt] 23))
  have GP3 := Aside0.mk (blk_new w3 (.cells #[.int .i64 5, .int .i64 s, .int .i64 pt] 23))
  clear hb I2 B2
  go_wp2_with fail
  generalize w3.alloc (.cells #[.int .i64 5, .int .i64 s, .int .i64 pt] 23) = w4 at *
  generalize w3.heap.size = gp at *
  by_cases hP : pt ≥ 0 ∧ pt ≠ 1 ∧ pt ≠ 2
  · have F := Aside0.mk (show place_IsContent.f 5 s pt = some true by rw [isC_f', decide_eq_true hP])
    have HP := Aside0.mk hP
    clear hP
    refine (place_IsContent.calls 5 s pt true w4 F.out).mono ?_
    rintro e w5 ⟨rfl, hb⟩
    have I5 := Aside0.mk (I3.out.below hb)
    have B5 := Aside0.mk (below_step B3.out hb)
    have GP5 := Aside0.mk (blk_below GP3.out hb)
    clear hb I3 B3 GP3
    go_wp2_with fail
    refine (iborn_T gi g1 g2 gs g3 A0 s w w5 I5.out B5.out (by decide)).mono ?_
    rintro e w6 ⟨rfl, h1, h2, h3⟩
    rw [BI.out]
    have GP6 := Aside0.mk (I5.out.stays h3 GP5.out (by decide) (by decide) (by decide))
    have I6 := Aside0.mk h1
    have B6 := Aside0.mk h2
    clear h1 h2 h3 I5 B5 GP5
    have p0 : w6.cell? ⟨gp, 0, none⟩ = some (.int .i64 5) := (blk_cell GP6.out 0).trans rfl
    have p1 : w6.cell? ⟨gp, 1, none⟩ = some (.int .i64 s) := (blk_cell GP6.out 1).trans rfl
    have p2 : w6.cell? ⟨gp, 2, none⟩ = some (.int .i64 pt) := (blk_cell GP6.out 2).trans rfl
    go_wp2_with fail
    refine (istore_T gi g1 g2 gs g3 _ 5 s pt 1 wd 0 false w w6 I6.out B6.out).mono ?_
    rintro e w7 ⟨rfl, h1, h2, h3⟩
    have GP7 := Aside0.mk (I6.out.stays h3 GP6.out (by decide) (by decide) (by decide))
    obtain ⟨A, hA⟩ : ∃ A, storeA (bornA A0 s) (ofK 5 s pt 1) wd 0 = A := ⟨_, rfl⟩
    have hH : Holds A pt wd 1 := by
      subst hA
      rw [ofK_me HP.out]
      refine ⟨?_, ?_⟩
      · show (get (put (bornA A0 s).words (5, 0, pt, 1) wd) (5, 0, pt, 1)).getD 0 = wd
        rw [M.get_put, if_pos rfl]
        rfl
      · show ((bornRow A0.row s).length : Int) ≤ 1
        unfold bornRow
        split
        · exact (by decide : ((([] : List Int).length : Nat) : Int) ≤ 1)
        · exact Int.le_refl _
    rw [hA] at h1
    have I7 := Aside0.mk h1
    have B7 := Aside0.mk h2
    have H7 := Aside0.mk hH
    clear h1 h2 h3 hH hA I6 B6 GP6 p0 p1 p2
    go_wp2_with fail
    go_loopg [13] xs.length (fun kq v13 w' => ∃ (i : Int) (A : ISt), v13 = .int .i64 i ∧ Aside0 (0 ≤ i ∧ i ≤ 100 ∧ i + kq = xs.length) ∧ Aside0 (IdealIs w w' gi g1 g2 gs g3 A) ∧ Aside0 (Below w.heap.size w w') ∧ Aside0 (w'.heap[gp]? = some (.cells #[.int .i64 5, .int .i64 s, .int .i64 pt] 23 (0, 0))) ∧ Aside0 (Holds A pt wd (1 + i)))
    case atStart => exact ⟨0, A, rfl, ⟨by omega⟩, I7, B7, GP7, H7⟩
    case round =>
      clear I7 B7 GP7 H7 A
      obtain ⟨i, A, rfl, HK, JI, JB, JP, JH⟩ := hrel
      by_cases hi : i < (xs.length : Int) ∧ i < 100
      · have t1 : decide (i < (xs.length : Int)) = true := decide_eq_true hi.1
        have t2 : decide (i < 100) = true := decide_eq_true hi.2
        have p0 : (0 : Int) ≤ i := HK.out.1
        have q0 : i < (xs.length : Int) := hi.1
        have q1 := Aside0.mk hi.2
        clear hi
        obtain ⟨ko, rfl⟩ : ∃ m, gk = m + 1 := ⟨gk - 1, by have := HK.out; omega⟩
        obtain ⟨ad, e0, HXS⟩ := at_T50 HR.out i p0 q0
        cases e0
        obtain ⟨x, hx⟩ : ∃ x, xs.getD i.toNat z50 = x := ⟨_, rfl⟩
        rw [hx] at HXS
        obtain ⟨hx0, hx1, hx2, hx3, hx4, hx5, hx6, hx7, hx8, hx9, hx10⟩ := HXS
        clear hx
        obtain ⟨kd, ⟨⟨pk, ps, pp⟩, id⟩, ⟨ox, oy, ost⟩, ⟨vx, vy, vst⟩⟩ := x
        replace hx0 := (JB.out.cell (World.block_lt_of_cell? w _ hx0)).trans hx0
        replace hx1 := (JB.out.cell (World.block_lt_of_cell? w _ hx1)).trans hx1
        replace hx2 := (JB.out.cell (World.block_lt_of_cell? w _ hx2)).trans hx2
        replace hx3 := (JB.out.cell (World.block_lt_of_cell? w _ hx3)).trans hx3
        replace hx4 := (JB.out.cell (World.block_lt_of_cell? w _ hx4)).trans hx4
        replace hx5 := (JB.out.cell (World.block_lt_of_cell? w _ hx5)).trans hx5
        replace hx6 := (JB.out.cell (World.block_lt_of_cell? w _ hx6)).trans hx6
        replace hx7 := (JB.out.cell (World.block_lt_of_cell? w _ hx7)).trans hx7
        replace hx8 := (JB.out.cell (World.block_lt_of_cell? w _ hx8)).trans hx8
        replace hx9 := (JB.out.cell (World.block_lt_of_cell? w _ hx9)).trans hx9
        replace hx10 := (JB.out.cell (World.block_lt_of_cell? w _ hx10)).trans hx10
        have p0b : decide (0 ≤ i) = true := decide_eq_true p0
        have wi : wrap64 (i + 1) = i + 1 := by have := q1.out; unfold wrap64; omega
        have LR := Aside0.mk (show A.row.length ≤ 100000 by have := JH.out.2; have := q1.out; omega)
        replace p0 := eq_true p0
        replace q0 := eq_true q0
        have RI := Aside0.mk (show i + 1 ≤ 100 ∧ 0 ≤ i by have := q1.out; have := HK.out; omega)
        by_cases hq : id = 1
        · have t3 : (id == 1) = true := beq_iff_eq.mpr hq
          clear hq
          have XB := Aside0.mk (blk_new wr (.cells #[.int .i64 kd, .int .i64 pk, .int .i64 ps, .int .i64 pp, .int .i64 2, .int .u64 ox, .int .i64 oy, .bool ost, .int .u64 vx, .int .i64 vy, .bool vst] 50))
          have XI := Aside0.mk (JI.out.alloc (.cells #[.int .i64 kd, .int .i64 pk, .int .i64 ps, .int .i64 pp, .int .i64 2, .int .u64 ox, .int .i64 oy, .bool ost, .int .u64 vx, .int .i64 vy, .bool vst] 50))
          have XJ := Aside0.mk (below_alloc JB.out (.cells #[.int .i64 kd, .int .i64 pk, .int .i64 ps, .int .i64 pp, .int .i64 2, .int .u64 ox, .int .i64 oy, .bool ost, .int .u64 vx, .int .i64 vy, .bool vst] 50))
          have XP := Aside0.mk (blk_alloc JP.out (.cells #[.int .i64 kd, .int .i64 pk, .int .i64 ps, .int .i64 pp, .int .i64 2, .int .u64 ox, .int .i64 oy, .bool ost, .int .u64 vx, .int .i64 vy, .bool vst] 50))
          by_cases k2 : kd = 2
          · subst k2
            have b1 : (wr.alloc (.cells #[.int .i64 2, .int .i64 pk, .int .i64 ps, .int .i64 pp, .int .i64 2, .int .u64 ox, .int .i64 oy, .bool ost, .int .u64 vx, .int .i64 vy, .bool vst] 50)).cell? ⟨wr.heap.size, 1, none⟩ = some (.int .i64 pk) := (blk_cell XB.out 1).trans rfl
            have b2 : (wr.alloc (.cells #[.int .i64 2, .int .i64 pk, .int .i64 ps, .int .i64 pp, .int .i64 2, .int .u64 ox, .int .i64 oy, .bool ost, .int .u64 vx, .int .i64 vy, .bool vst] 50)).cell? ⟨wr.heap.size, 2, none⟩ = some (.int .i64 ps) := (blk_cell XB.out 2).trans rfl
            have b3 : (wr.alloc (.cells #[.int .i64 2, .int .i64 pk, .int .i64 ps, .int .i64 pp, .int .i64 2, .int .u64 ox, .int .i64 oy, .bool ost, .int .u64 vx, .int .i64 vy, .bool vst] 50)).cell? ⟨wr.heap.size, 3, none⟩ = some (.int .i64 pp) := (blk_cell XB.out 3).trans rfl
            have b4 : (wr.alloc (.cells #[.int .i64 2, .int .i64 pk, .int .i64 ps, .int .i64 pp, .int .i64 2, .int .u64 ox, .int .i64 oy, .bool ost, .int .u64 vx, .int .i64 vy, .bool vst] 50)).cell? ⟨wr.heap.size, 4, none⟩ = some (.int .i64 2) := (blk_cell XB.out 4).trans rfl
            have b8 : (wr.alloc (.cells #[.int .i64 2, .int .i64 pk, .int .i64 ps, .int .i64 pp, .int .i64 2, .int .u64 ox, .int .i64 oy, .bool ost, .int .u64 vx, .int .i64 vy, .bool vst] 50)).cell? ⟨wr.heap.size, 8, none⟩ = some (.int .u64 vx) := (blk_cell XB.out 8).trans rfl
            have b9 : (wr.alloc (.cells #[.int .i64 2, .int .i64 pk, .int .i64 ps, .int .i64 pp, .int .i64 2, .int .u64 ox, .int .i64 oy, .bool ost, .int .u64 vx, .int .i64 vy, .bool vst] 50)).cell? ⟨wr.heap.size, 9, none⟩ = some (.int .i64 vy) := (blk_cell XB.out 9).trans rfl
            have b10 : (wr.alloc (.cells #[.int .i64 2, .int .i64 pk, .int .i64 ps, .int .i64 pp, .int .i64 2, .int .u64 ox, .int .i64 oy, .bool ost, .int .u64 vx, .int .i64 vy, .bool vst] 50)).cell? ⟨wr.heap.size, 10, none⟩ = some (.bool vst) := (blk_cell XB.out 10).trans rfl
            go_wp2_with fail
            refine (istore_T gi g1 g2 gs g3 A pk ps pp 2 vx vy vst w _ XI.out XJ.out).mono ?_
            rintro e w5 ⟨rfl, h1, h2, h3⟩
            have R1 := Aside0.mk h1
            have R2 := Aside0.mk h2
            have R3 := Aside0.mk (XI.out.stays h3 XP.out (by decide) (by decide) (by decide))
            have R4 := Aside0.mk (JH.out.store (k := ofK pk ps pp 2) (ofK_ne (show (2 : Int) ≠ 1 by decide)) vx vy)
            clear h1 h2 h3 hx0 hx1 hx2 hx3 hx4 hx5 hx6 hx7 hx8 hx9 hx10
            go_wp2_with fail
            go_roundg ko
            case rel => exact ⟨i + 1, _, by first | rfl | rw [wi], ⟨by have := HK.out; have := RI.out; omega⟩, R1, R2, R3, ⟨by have := R4.out; rwa [Int.add_assoc] at this⟩⟩
            case measure => exact Nat.lt_succ_self _
          have u2 : (kd == 2) = false := beq_eq_false_iff_ne.mpr k2
          clear k2
          by_cases k3 : kd = 3
          · subst k3
            have b1 : (wr.alloc (.cells #[.int .i64 3, .int .i64 pk, .int .i64 ps, .int .i64 pp, .int .i64 2, .int .u64 ox, .int .i64 oy, .bool ost, .int .u64 vx, .int .i64 vy, .bool vst] 50)).cell? ⟨wr.heap.size, 1, none⟩ = some (.int .i64 pk) := (blk_cell XB.out 1).trans rfl
            have b2 : (wr.alloc (.cells #[.int .i64 3, .int .i64 pk, .int .i64 ps, .int .i64 pp, .int .i64 2, .int .u64 ox, .int .i64 oy, .bool ost, .int .u64 vx, .int .i64 vy, .bool vst] 50)).cell? ⟨wr.heap.size, 2, none⟩ = some (.int .i64 ps) := (blk_cell XB.out 2).trans rfl
            have b3 : (wr.alloc (.cells #[.int .i64 3, .int .i64 pk, .int .i64 ps, .int .i64 pp, .int .i64 2, .int .u64 ox, .int .i64 oy, .bool ost, .int .u64 vx, .int .i64 vy, .bool vst] 50)).cell? ⟨wr.heap.size, 3, none⟩ = some (.int .i64 pp) := (blk_cell XB.out 3).trans rfl
            have b4 : (wr.alloc (.cells #[.int .i64 3, .int .i64 pk, .int .i64 ps, .int .i64 pp, .int .i64 2, .int .u64 ox, .int .i64 oy, .bool ost, .int .u64 vx, .int .i64 vy, .bool vst] 50)).cell? ⟨wr.heap.size, 4, none⟩ = some (.int .i64 2) := (blk_cell XB.out 4).trans rfl
            have b5 : (wr.alloc (.cells #[.int .i64 3, .int .i64 pk, .int .i64 ps, .int .i64 pp, .int .i64 2, .int .u64 ox, .int .i64 oy, .bool ost, .int .u64 vx, .int .i64 vy, .bool vst] 50)).cell? ⟨wr.heap.size, 5, none⟩ = some (.int .u64 ox) := (blk_cell XB.out 5).trans rfl
            have b6 : (wr.alloc (.cells #[.int .i64 3, .int .i64 pk, .int .i64 ps, .int .i64 pp, .int .i64 2, .int .u64 ox, .int .i64 oy, .bool ost, .int .u64 vx, .int .i64 vy, .bool vst] 50)).cell? ⟨wr.heap.size, 6, none⟩ = some (.int .i64 oy) := (blk_cell XB.out 6).trans rfl
            have b7 : (wr.alloc (.cells #[.int .i64 3, .int .i64 pk, .int .i64 ps, .int .i64 pp, .int .i64 2, .int .u64 ox, .int .i64 oy, .bool ost, .int .u64 vx, .int .i64 vy, .bool vst] 50)).cell? ⟨wr.heap.size, 7, none⟩ = some (.bool ost) := (blk_cell XB.out 7).trans rfl
            have b8 : (wr.alloc (.cells #[.int .i64 3, .int .i64 pk, .int .i64 ps, .int .i64 pp, .int .i64 2, .int .u64 ox, .int .i64 oy, .bool ost, .int .u64 vx, .int .i64 vy, .bool vst] 50)).cell? ⟨wr.heap.size, 8, none⟩ = some (.int .u64 vx) := (blk_cell XB.out 8).trans rfl
            have b9 : (wr.alloc (.cells #[.int .i64 3, .int .i64 pk, .int .i64 ps, .int .i64 pp, .int .i64 2, .int .u64 ox, .int .i64 oy, .bool ost, .int .u64 vx, .int .i64 vy, .bool vst] 50)).cell? ⟨wr.heap.size, 9, none⟩ = some (.int .i64 vy) := (blk_cell XB.out 9).trans rfl
            have b10 : (wr.alloc (.cells #[.int .i64 3, .int .i64 pk, .int .i64 ps, .int .i64 pp, .int .i64 2, .int .u64 ox, .int .i64 oy, .bool ost, .int .u64 vx, .int .i64 vy, .bool vst] 50)).cell? ⟨wr.heap.size, 10, none⟩ = some (.bool vst) := (blk_cell XB.out 10).trans rfl
            go_wp2_with fail
            refine (iswap_T gi g1 g2 gs g3 A pk ps pp 2 ox oy vx vy ost vst w _ XI.out XJ.out).mono ?_
            rintro e w5 ⟨rfl, h1, h2, h3⟩
            have R1 := Aside0.mk h1
            have R2 := Aside0.mk h2
            have R3 := Aside0.mk (XI.out.stays h3 XP.out (by decide) (by decide) (by decide))
            have R4 := Aside0.mk (JH.out.swap (k := ofK pk ps pp 2) (ofK_ne (show (2 : Int) ≠ 1 by decide)) ox vx vy)
            clear h1 h2 h3 hx0 hx1 hx2 hx3 hx4 hx5 hx6 hx7 hx8 hx9 hx10
            go_wp2_with fail
            go_roundg ko
            case rel => exact ⟨i + 1, _, by first | rfl | rw [wi], ⟨by have := HK.out; have := RI.out; omega⟩, R1, R2, R3, ⟨by have := R4.out; rwa [Int.add_assoc] at this⟩⟩
            case measure => exact Nat.lt_succ_self _
          have u3 : (kd == 3) = false := beq_eq_false_iff_ne.mpr k3
          clear k3
          by_cases k5 : kd = 5
          · subst k5
            have b1 : (wr.alloc (.cells #[.int .i64 5, .int .i64 pk, .int .i64 ps, .int .i64 pp, .int .i64 2, .int .u64 ox, .int .i64 oy, .bool ost, .int .u64 vx, .int .i64 vy, .bool vst] 50)).cell? ⟨wr.heap.size, 1, none⟩ = some (.int .i64 pk) := (blk_cell XB.out 1).trans rfl
            have b2 : (wr.alloc (.cells #[.int .i64 5, .int .i64 pk, .int .i64 ps, .int .i64 pp, .int .i64 2, .int .u64 ox, .int .i64 oy, .bool ost, .int .u64 vx, .int .i64 vy, .bool vst] 50)).cell? ⟨wr.heap.size, 2, none⟩ = some (.int .i64 ps) := (blk_cell XB.out 2).trans rfl
            have b3 : (wr.alloc (.cells #[.int .i64 5, .int .i64 pk, .int .i64 ps, .int .i64 pp, .int .i64 2, .int .u64 ox, .int .i64 oy, .bool ost, .int .u64 vx, .int .i64 vy, .bool vst] 50)).cell? ⟨wr.heap.size, 3, none⟩ = some (.int .i64 pp) := (blk_cell XB.out 3).trans rfl
            have b4 : (wr.alloc (.cells #[.int .i64 5, .int .i64 pk, .int .i64 ps, .int .i64 pp, .int .i64 2, .int .u64 ox, .int .i64 oy, .bool ost, .int .u64 vx, .int .i64 vy, .bool vst] 50)).cell? ⟨wr.heap.size, 4, none⟩ = some (.int .i64 2) := (blk_cell XB.out 4).trans rfl
            have b8 : (wr.alloc (.cells #[.int .i64 5, .int .i64 pk, .int .i64 ps, .int .i64 pp, .int .i64 2, .int .u64 ox, .int .i64 oy, .bool ost, .int .u64 vx, .int .i64 vy, .bool vst] 50)).cell? ⟨wr.heap.size, 8, none⟩ = some (.int .u64 vx) := (blk_cell XB.out 8).trans rfl
            go_wp2_with fail
            refine (iadd_T gi g1 g2 gs g3 A pk ps pp 2 vx w _ XI.out XJ.out).mono ?_
            rintro e w5 ⟨rfl, h1, h2, h3⟩
            have R1 := Aside0.mk h1
            have R2 := Aside0.mk h2
            have R3 := Aside0.mk (XI.out.stays h3 XP.out (by decide) (by decide) (by decide))
            have R4 := Aside0.mk (JH.out.add (k := ofK pk ps pp 2) (ofK_ne (show (2 : Int) ≠ 1 by decide)) vx)
            clear h1 h2 h3 hx0 hx1 hx2 hx3 hx4 hx5 hx6 hx7 hx8 hx9 hx10
            go_wp2_with fail
            go_roundg ko
            case rel => exact ⟨i + 1, _, by first | rfl | rw [wi], ⟨by have := HK.out; have := RI.out; omega⟩, R1, R2, R3, ⟨by have := R4.out; rwa [Int.add_assoc] at this⟩⟩
            case measure => exact Nat.lt_succ_self _
          have u5 : (kd == 5) = false := beq_eq_false_iff_ne.mpr k5
          clear k5
          by_cases k6 : kd = 6
          · subst k6
            have b2 : (wr.alloc (.cells #[.int .i64 6, .int .i64 pk, .int .i64 ps, .int .i64 pp, .int .i64 2, .int .u64 ox, .int .i64 oy, .bool ost, .int .u64 vx, .int .i64 vy, .bool vst] 50)).cell? ⟨wr.heap.size, 2, none⟩ = some (.int .i64 ps) := (blk_cell XB.out 2).trans rfl
            go_wp2_with fail
            refine (iborn_T gi g1 g2 gs g3 A ps w _ XI.out XJ.out LR.out).mono ?_
            rintro e w5 ⟨rfl, h1, h2, h3⟩
            have R1 := Aside0.mk h1
            have R2 := Aside0.mk h2
            have R3 := Aside0.mk (XI.out.stays h3 XP.out (by decide) (by decide) (by decide))
            have R4 := Aside0.mk (JH.out.born ps)
            clear h1 h2 h3 hx0 hx1 hx2 hx3 hx4 hx5 hx6 hx7 hx8 hx9 hx10
            go_wp2_with fail
            go_roundg ko
            case rel => exact ⟨i + 1, _, by first | rfl | rw [wi], ⟨by have := HK.out; have := RI.out; omega⟩, R1, R2, R3, ⟨by have := R4.out; rwa [Int.add_assoc] at this⟩⟩
            case measure => exact Nat.lt_succ_self _
          have u6 : (kd == 6) = false := beq_eq_false_iff_ne.mpr k6
          clear k6
          have R1 := XI
          have R2 := XJ
          have R3 := XP
          have R4 := Aside0.mk (JH.out.rest)
          go_wp2_with fail
          go_roundg ko
          case rel => exact ⟨i + 1, _, by first | rfl | rw [wi], ⟨by have := HK.out; have := RI.out; omega⟩, R1, R2, R3, ⟨by have := R4.out; rwa [Int.add_assoc] at this⟩⟩
          case measure => exact Nat.lt_succ_self _
        · have t3 : (id == 1) = false := beq_eq_false_iff_ne.mpr hq
          have HQ := Aside0.mk hq
          clear hq
          have XB := Aside0.mk (blk_new wr (.cells #[.int .i64 kd, .int .i64 pk, .int .i64 ps, .int .i64 pp, .int .i64 id, .int .u64 ox, .int .i64 oy, .bool ost, .int .u64 vx, .int .i64 vy, .bool vst] 50))
          have XI := Aside0.mk (JI.out.alloc (.cells #[.int .i64 kd, .int .i64 pk, .int .i64 ps, .int .i64 pp, .int .i64 id, .int .u64 ox, .int .i64 oy, .bool ost, .int .u64 vx, .int .i64 vy, .bool vst] 50))
          have XJ := Aside0.mk (below_alloc JB.out (.cells #[.int .i64 kd, .int .i64 pk, .int .i64 ps, .int .i64 pp, .int .i64 id, .int .u64 ox, .int .i64 oy, .bool ost, .int .u64 vx, .int .i64 vy, .bool vst] 50))
          have XP := Aside0.mk (blk_alloc JP.out (.cells #[.int .i64 kd, .int .i64 pk, .int .i64 ps, .int .i64 pp, .int .i64 id, .int .u64 ox, .int .i64 oy, .bool ost, .int .u64 vx, .int .i64 vy, .bool vst] 50))
          by_cases k2 : kd = 2
          · subst k2
            have b1 : (wr.alloc (.cells #[.int .i64 2, .int .i64 pk, .int .i64 ps, .int .i64 pp, .int .i64 id, .int .u64 ox, .int .i64 oy, .bool ost, .int .u64 vx, .int .i64 vy, .bool vst] 50)).cell? ⟨wr.heap.size, 1, none⟩ = some (.int .i64 pk) := (blk_cell XB.out 1).trans rfl
            have b2 : (wr.alloc (.cells #[.int .i64 2, .int .i64 pk, .int .i64 ps, .int .i64 pp, .int .i64 id, .int .u64 ox, .int .i64 oy, .bool ost, .int .u64 vx, .int .i64 vy, .bool vst] 50)).cell? ⟨wr.heap.size, 2, none⟩ = some (.int .i64 ps) := (blk_cell XB.out 2).trans rfl
            have b3 : (wr.alloc (.cells #[.int .i64 2, .int .i64 pk, .int .i64 ps, .int .i64 pp, .int .i64 id, .int .u64 ox, .int .i64 oy, .bool ost, .int .u64 vx, .int .i64 vy, .bool vst] 50)).cell? ⟨wr.heap.size, 3, none⟩ = some (.int .i64 pp) := (blk_cell XB.out 3).trans rfl
            have b4 : (wr.alloc (.cells #[.int .i64 2, .int .i64 pk, .int .i64 ps, .int .i64 pp, .int .i64 id, .int .u64 ox, .int .i64 oy, .bool ost, .int .u64 vx, .int .i64 vy, .bool vst] 50)).cell? ⟨wr.heap.size, 4, none⟩ = some (.int .i64 id) := (blk_cell XB.out 4).trans rfl
            have b8 : (wr.alloc (.cells #[.int .i64 2, .int .i64 pk, .int .i64 ps, .int .i64 pp, .int .i64 id, .int .u64 ox, .int .i64 oy, .bool ost, .int .u64 vx, .int .i64 vy, .bool vst] 50)).cell? ⟨wr.heap.size, 8, none⟩ = some (.int .u64 vx) := (blk_cell XB.out 8).trans rfl
            have b9 : (wr.alloc (.cells #[.int .i64 2, .int .i64 pk, .int .i64 ps, .int .i64 pp, .int .i64 id, .int .u64 ox, .int .i64 oy, .bool ost, .int .u64 vx, .int .i64 vy, .bool vst] 50)).cell? ⟨wr.heap.size, 9, none⟩ = some (.int .i64 vy) := (blk_cell XB.out 9).trans rfl
            have b10 : (wr.alloc (.cells #[.int .i64 2, .int .i64 pk, .int .i64 ps, .int .i64 pp, .int .i64 id, .int .u64 ox, .int .i64 oy, .bool ost, .int .u64 vx, .int .i64 vy, .bool vst] 50)).cell? ⟨wr.heap.size, 10, none⟩ = some (.bool vst) := (blk_cell XB.out 10).trans rfl
            go_wp2_with fail
            refine (istore_T gi g1 g2 gs g3 A pk ps pp id vx vy vst w _ XI.out XJ.out).mono ?_
            rintro e w5 ⟨rfl, h1, h2, h3⟩
            have R1 := Aside0.mk h1
            have R2 := Aside0.mk h2
            have R3 := Aside0.mk (XI.out.stays h3 XP.out (by decide) (by decide) (by decide))
            have R4 := Aside0.mk (JH.out.store (k := ofK pk ps pp id) (ofK_ne HQ.out) vx vy)
            clear h1 h2 h3 hx0 hx1 hx2 hx3 hx4 hx5 hx6 hx7 hx8 hx9 hx10
            go_wp2_with fail
            go_roundg ko
            case rel => exact ⟨i + 1, _, by first | rfl | rw [wi], ⟨by have := HK.out; have := RI.out; omega⟩, R1, R2, R3, ⟨by have := R4.out; rwa [Int.add_assoc] at this⟩⟩
            case measure => exact Nat.lt_succ_self _
          have u2 : (kd == 2) = false := beq_eq_false_iff_ne.mpr k2
          clear k2
          by_cases k3 : kd = 3
          · subst k3
            have b1 : (wr.alloc (.cells #[.int .i64 3, .int .i64 pk, .int .i64 ps, .int .i64 pp, .int .i64 id, .int .u64 ox, .int .i64 oy, .bool ost, .int .u64 vx, .int .i64 vy, .bool vst] 50)).cell? ⟨wr.heap.size, 1, none⟩ = some (.int .i64 pk) := (blk_cell XB.out 1).trans rfl
            have b2 : (wr.alloc (.cells #[.int .i64 3, .int .i64 pk, .int .i64 ps, .int .i64 pp, .int .i64 id, .int .u64 ox, .int .i64 oy, .bool ost, .int .u64 vx, .int .i64 vy, .bool vst] 50)).cell? ⟨wr.heap.size, 2, none⟩ = some (.int .i64 ps) := (blk_cell XB.out 2).trans rfl
            have b3 : (wr.alloc (.cells #[.int .i64 3, .int .i64 pk, .int .i64 ps, .int .i64 pp, .int .i64 id, .int .u64 ox, .int .i64 oy, .bool ost, .int .u64 vx, .int .i64 vy, .bool vst] 50)).cell? ⟨wr.heap.size, 3, none⟩ = some (.int .i64 pp) := (blk_cell XB.out 3).trans rfl
            have b4 : (wr.alloc (.cells #[.int .i64 3, .int .i64 pk, .int .i64 ps, .int .i64 pp, .int .i64 id, .int .u64 ox, .int .i64 oy, .bool ost, .int .u64 vx, .int .i64 vy, .bool vst] 50)).cell? ⟨wr.heap.size, 4, none⟩ = some (.int .i64 id) := (blk_cell XB.out 4).trans rfl
            have b5 : (wr.alloc (.cells #[.int .i64 3, .int .i64 pk, .int .i64 ps, .int .i64 pp, .int .i64 id, .int .u64 ox, .int .i64 oy, .bool ost, .int .u64 vx, .int .i64 vy, .bool vst] 50)).cell? ⟨wr.heap.size, 5, none⟩ = some (.int .u64 ox) := (blk_cell XB.out 5).trans rfl
            have b6 : (wr.alloc (.cells #[.int .i64 3, .int .i64 pk, .int .i64 ps, .int .i64 pp, .int .i64 id, .int .u64 ox, .int .i64 oy, .bool ost, .int .u64 vx, .int .i64 vy, .bool vst] 50)).cell? ⟨wr.heap.size, 6, none⟩ = some (.int .i64 oy) := (blk_cell XB.out 6).trans rfl
            have b7 : (wr.alloc (.cells #[.int .i64 3, .int .i64 pk, .int .i64 ps, .int .i64 pp, .int .i64 id, .int .u64 ox, .int .i64 oy, .bool ost, .int .u64 vx, .int .i64 vy, .bool vst] 50)).cell? ⟨wr.heap.size, 7, none⟩ = some (.bool ost) := (blk_cell XB.out 7).trans rfl
            have b8 : (wr.alloc (.cells #[.int .i64 3, .int .i64 pk, .int .i64 ps, .int .i64 pp, .int .i64 id, .int .u64 ox, .int .i64 oy, .bool ost, .int .u64 vx, .int .i64 vy, .bool vst] 50)).cell? ⟨wr.heap.size, 8, none⟩ = some (.int .u64 vx) := (blk_cell XB.out 8).trans rfl
            have b9 : (wr.alloc (.cells #[.int .i64 3, .int .i64 pk, .int .i64 ps, .int .i64 pp, .int .i64 id, .int .u64 ox, .int .i64 oy, .bool ost, .int .u64 vx, .int .i64 vy, .bool vst] 50)).cell? ⟨wr.heap.size, 9, none⟩ = some (.int .i64 vy) := (blk_cell XB.out 9).trans rfl
            have b10 : (wr.alloc (.cells #[.int .i64 3, .int .i64 pk, .int .i64 ps, .int .i64 pp, .int .i64 id, .int .u64 ox, .int .i64 oy, .bool ost, .int .u64 vx, .int .i64 vy, .bool vst] 50)).cell? ⟨wr.heap.size, 10, none⟩ = some (.bool vst) := (blk_cell XB.out 10).trans rfl
            go_wp2_with fail
            refine (iswap_T gi g1 g2 gs g3 A pk ps pp id ox oy vx vy ost vst w _ XI.out XJ.out).mono ?_
            rintro e w5 ⟨rfl, h1, h2, h3⟩
            have R1 := Aside0.mk h1
            have R2 := Aside0.mk h2
            have R3 := Aside0.mk (XI.out.stays h3 XP.out (by decide) (by decide) (by decide))
            have R4 := Aside0.mk (JH.out.swap (k := ofK pk ps pp id) (ofK_ne HQ.out) ox vx vy)
            clear h1 h2 h3 hx0 hx1 hx2 hx3 hx4 hx5 hx6 hx7 hx8 hx9 hx10
            go_wp2_with fail
            go_roundg ko
            case rel => exact ⟨i + 1, _, by first | rfl | rw [wi], ⟨by have := HK.out; have := RI.out; omega⟩, R1, R2, R3, ⟨by have := R4.out; rwa [Int.add_assoc] at this⟩⟩
            case measure => exact Nat.lt_succ_self _
          have u3 : (kd == 3) = false := beq_eq_false_iff_ne.mpr k3
          clear k3
          by_cases k5 : kd = 5
          · subst k5
            have b1 : (wr.alloc (.cells #[.int .i64 5, .int .i64 pk, .int .i64 ps, .int .i64 pp, .int .i64 id, .int .u64 ox, .int .i64 oy, .bool ost, .int .u64 vx, .int .i64 vy, .bool vst] 50)).cell? ⟨wr.heap.size, 1, none⟩ = some (.int .i64 pk) := (blk_cell XB.out 1).trans rfl
            have b2 : (wr.alloc (.cells #[.int .i64 5, .int .i64 pk, .int .i64 ps, .int .i64 pp, .int .i64 id, .int .u64 ox, .int .i64 oy, .bool ost, .int .u64 vx, .int .i64 vy, .bool vst] 50)).cell? ⟨wr.heap.size, 2, none⟩ = some (.int .i64 ps) := (blk_cell XB.out 2).trans rfl
            have b3 : (wr.alloc (.cells #[.int .i64 5, .int .i64 pk, .int .i64 ps, .int .i64 pp, .int .i64 id, .int .u64 ox, .int .i64 oy, .bool ost, .int .u64 vx, .int .i64 vy, .bool vst] 50)).cell? ⟨wr.heap.size, 3, none⟩ = some (.int .i64 pp) := (blk_cell XB.out 3).trans rfl
            have b4 : (wr.alloc (.cells #[.int .i64 5, .int .i64 pk, .int .i64 ps, .int .i64 pp, .int .i64 id, .int .u64 ox, .int .i64 oy, .bool ost, .int .u64 vx, .int .i64 vy, .bool vst] 50)).cell? ⟨wr.heap.size, 4, none⟩ = some (.int .i64 id) := (blk_cell XB.out 4).trans rfl
            have b8 : (wr.alloc (.cells #[.int .i64 5, .int .i64 pk, .int .i64 ps, .int .i64 pp, .int .i64 id, .int .u64 ox, .int .i64 oy, .bool ost, .int .u64 vx, .int .i64 vy, .bool vst] 50)).cell? ⟨wr.heap.size, 8, none⟩ = some (.int .u64 vx) := (blk_cell XB.out 8).trans rfl
            go_wp2_with fail
            refine (iadd_T gi g1 g2 gs g3 A pk ps pp id vx w _ XI.out XJ.out).mono ?_
            rintro e w5 ⟨rfl, h1, h2, h3⟩
            have R1 := Aside0.mk h1
            have R2 := Aside0.mk h2
            have R3 := Aside0.mk (XI.out.stays h3 XP.out (by decide) (by decide) (by decide))
            have R4 := Aside0.mk (JH.out.add (k := ofK pk ps pp id) (ofK_ne HQ.out) vx)
            clear h1 h2 h3 hx0 hx1 hx2 hx3 hx4 hx5 hx6 hx7 hx8 hx9 hx10
            go_wp2_with fail
            go_roundg ko
            case rel => exact ⟨i + 1, _, by first | rfl | rw [wi], ⟨by have := HK.out; have := RI.out; omega⟩, R1, R2, R3, ⟨by have := R4.out; rwa [Int.add_assoc] at this⟩⟩
            case measure => exact Nat.lt_succ_self _
          have u5 : (kd == 5) = false := beq_eq_false_iff_ne.mpr k5
          clear k5
          by_cases k6 : kd = 6
          · subst k6
            have b2 : (wr.alloc (.cells #[.int .i64 6, .int .i64 pk, .int .i64 ps, .int .i64 pp, .int .i64 id, .int .u64 ox, .int .i64 oy, .bool ost, .int .u64 vx, .int .i64 vy, .bool vst] 50)).cell? ⟨wr.heap.size, 2, none⟩ = some (.int .i64 ps) := (blk_cell XB.out 2).trans rfl
            go_wp2_with fail
            refine (iborn_T gi g1 g2 gs g3 A ps w _ XI.out XJ.out LR.out).mono ?_
            rintro e w5 ⟨rfl, h1, h2, h3⟩
            have R1 := Aside0.mk h1
            have R2 := Aside0.mk h2
            have R3 := Aside0.mk (XI.out.stays h3 XP.out (by decide) (by decide) (by decide))
            have R4 := Aside0.mk (JH.out.born ps)
            clear h1 h2 h3 hx0 hx1 hx2 hx3 hx4 hx5 hx6 hx7 hx8 hx9 hx10
            go_wp2_with fail
            go_roundg ko
            case rel => exact ⟨i + 1, _, by first | rfl | rw [wi], ⟨by have := HK.out; have := RI.out; omega⟩, R1, R2, R3, ⟨by have := R4.out; rwa [Int.add_assoc] at this⟩⟩
            case measure => exact Nat.lt_succ_self _
          have u6 : (kd == 6) = false := beq_eq_false_iff_ne.mpr k6
          clear k6
          have R1 := XI
          have R2 := XJ
          have R3 := XP
          have R4 := Aside0.mk (JH.out.rest)
          go_wp2_with fail
          go_roundg ko
          case rel => exact ⟨i + 1, _, by first | rfl | rw [wi], ⟨by have := HK.out; have := RI.out; omega⟩, R1, R2, R3, ⟨by have := R4.out; rwa [Int.add_assoc] at this⟩⟩
          case measure => exact Nat.lt_succ_self _
      · have tt : decide (i < (xs.length : Int)) = false ∨ (decide (i < (xs.length : Int)) = true ∧ decide (i < 100) = false) := by
          by_cases h : i < (xs.length : Int)
          · exact .inr ⟨decide_eq_true h, decide_eq_false (fun h2 => hi ⟨h, h2⟩)⟩
          · exact .inl (decide_eq_false h)
        clear hi
        have pp2 : wr.cell? ⟨gp, 2, none⟩ = some (.int .i64 pt) := (blk_cell JP.out 2).trans rfl
        have V1 := Aside0.mk (show contentR A 1 pt = wd from (if_pos HP.out).trans JH.out.1)
        have V2 := Aside0.mk (show (get A.words (ofK 5 s pt 1)).getD 0 = wd by rw [ofK_me HP.out]; exact JH.out.1)
        rcases tt with t1 | ⟨t1, t2⟩
        all_goals
          go_wp2_with fail
          refine (icontent_T gi g1 g2 gs g3 A 1 pt w wr JI.out).mono ?_
          rintro e w8 ⟨rfl, hb⟩
          rw [V1.out]
          have I8 := Aside0.mk (JI.out.below hb)
          have B8 := Aside0.mk (below_step JB.out hb)
          have GP8 := Aside0.mk (blk_below JP.out hb)
          clear hb
          have y0 : w8.cell? ⟨gp, 0, none⟩ = some (.int .i64 5) := (blk_cell GP8.out 0).trans rfl
          have y1 : w8.cell? ⟨gp, 1, none⟩ = some (.int .i64 s) := (blk_cell GP8.out 1).trans rfl
          have y2 : w8.cell? ⟨gp, 2, none⟩ = some (.int .i64 pt) := (blk_cell GP8.out 2).trans rfl
          go_wp2_with fail
          refine (iload_T gi g1 g2 gs g3 A 5 s pt 1 w w8 I8.out B8.out).mono ?_
          rintro e w9 ⟨rfl, h1, h2, h3⟩
          rw [V2.out]
          have GP9 := Aside0.mk (I8.out.stays h3 GP8.out (by decide) (by decide) (by decide))
          have I9 := Aside0.mk h1
          have B9 := Aside0.mk h2
          clear h1 h2 h3
          have z0 : w9.cell? ⟨gp, 0, none⟩ = some (.int .i64 5) := (blk_cell GP9.out 0).trans rfl
          have z1 : w9.cell? ⟨gp, 1, none⟩ = some (.int .i64 s) := (blk_cell GP9.out 1).trans rfl
          have z2 : w9.cell? ⟨gp, 2, none⟩ = some (.int .i64 pt) := (blk_cell GP9.out 2).trans rfl
          go_wp2_with fail
          refine (iload_T gi g1 g2 gs g3 _ 5 s pt 1 w w9 I9.out B9.out).mono ?_
          rintro e w10 ⟨rfl, h1, h2, h3⟩
          have B10 := Aside0.mk h2
          clear h1 h2 h3
          go_wp2_with fail
          go_ret
          exact ⟨rfl, B10.out⟩
  · have F := Aside0.mk (show place_IsContent.f 5 s pt = some false by rw [isC_f', decide_eq_false hP])
    clear hP
    refine (place_IsContent.calls 5 s pt false w4 F.out).mono ?_
    rintro e w5 ⟨rfl, hb⟩
    have B5 := Aside0.mk (below_step B3.out hb)
    clear hb
    go_wp2_with fail
    go_ret
    exact ⟨rfl, B5.out⟩
def revenantlaw09_IdealKeeps.f (xs : List S50) (slot part wd : Int) : Option Bool := some true
theorem revenantlaw09_IdealKeeps.calls (A0_ : Option Addr) (c0 : Nat) (xs : List S50) (slot part wd : Int) (r : Bool) (w : World) (hr0 : Kd.C k50 w A0_ xs.length xs) (hc0 : xs.length ≤ c0) (h : revenantlaw09_IdealKeeps.f xs slot part wd = some r) :
    Calls Try.prog 4 #[.slice A0_ xs.length c0, .int .i64 slot, .int .i64 part, .int .u64 wd] w fun e w' => e = .returned (.bool r) ∧ Below w.heap.size w w' := by
  obtain rfl := Option.some.inj h
  exact keeps09T A0_ c0 xs slot part wd w hr0 hc0
theorem RIdealKeeps (xs : List S50) (slot part wd : Int) {P Q R S : Prop} (_ : P) (_ : Q) (_ : R) (_ : S) : revenantlaw09_IdealKeeps.f xs slot part wd = some true := rfl
end Go.Proofs.Ytlpnggapndokeaa.PIdealKeeps

