/-
Where no slot is born twice it is the plain world: the law answers true, whatever its arguments are.
-/
import Derived.Test.YtlpnggapndokeaaWords
import Derived.Test.YtlpnggapndokeaaRelPlain
namespace Go.Proofs.Ytlpnggapndokeaa.PIdealKeeps
open Go Go.RowKit Go.Proofs.YtlpnggapndokeaaW.PrintWords Go.Proofs.YtlpnggapndokeaaW.PrintLast Go.Proofs.YtlpnggapndokeaaW.PrintMore Go.Proofs.Ytlpnggapndokeaa.M Go.Proofs.Ytlpnggapndokeaa.U
attribute [local go_sem] max2_int min2_int max_two min_two max_three min_three max_four min_four
set_option linter.unusedVariables false
set_option linter.unusedSimpArgs false
def bc (s k : Int) : Value := .int .i64 (if k < s then k else 0)
/-- Behind s - 1 births. -/
structure Born (A : ISt) (s : Int) : Prop where
  words : A.words = []
  c1 : A.c1 = 0
  c2 : A.c2 = 0
  c3 : A.c3 = 0
  c4 : A.c4 = 0
  c5 : A.c5 = 0
  row : (A.row.length : Int) = s - 1
  now : ∀ j, 1 ≤ j → j < s → (get A.now j).getD 0 = j
theorem Born.step {A : ISt} {s : Int} (h : Born A s) (h1 : 1 ≤ s) : Born (bornA A s) (s + 1) ∧ bornId A.row s = s := by
  have hn : ¬ s < 1 := by omega
  have hr := h.row
  refine ⟨⟨h.words, h.c1, h.c2, h.c3, h.c4, h.c5, ?_, ?_⟩, ?_⟩
  · show ((bornRow A.row s).length : Int) = s + 1 - 1
    unfold bornRow
    rw [if_neg hn, List.length_append, List.length_singleton]
    omega
  · intro j j1 j2
    show (get (bornNow A.now A.row s) j).getD 0 = j
    unfold bornNow
    rw [if_neg hn, M.get_put]
    by_cases e : j = s
    · rw [if_pos e]
      show (A.row.length : Int) + 1 = j
      omega
    · rw [if_neg e]
      exact h.now j j1 (by omega)
  · unfold bornId
    rw [if_neg hn]
    omega
theorem Born.rel {A : ISt} (h : Born A 8) : Rel A C0 :=
  ⟨fun s h1 h2 => h.now s h1 (by omega), fun kd sl pt v => by rw [h.words]; rfl, h.c1, h.c2, h.c3, h.c4, h.c5⟩
theorem bc_at {s : Int} (h1 : 1 ≤ s) (h2 : s ≤ 7) : (#[bc 8 0, bc 8 1, bc 8 2, bc 8 3, bc 8 4, bc 8 5, bc 8 6, bc 8 7] : Array Value)[s.toNat]? = some (.int .i64 s) := by
  obtain rfl | rfl | rfl | rfl | rfl | rfl | rfl : s = 1 ∨ s = 2 ∨ s = 3 ∨ s = 4 ∨ s = 5 ∨ s = 6 ∨ s = 7 := by omega
  all_goals rfl
theorem bc_set {s : Int} (h1 : 1 ≤ s) (h2 : s ≤ 7) : (#[bc s 0, bc s 1, bc s 2, bc s 3, bc s 4, bc s 5, bc s 6, bc s 7] : Array Value).setIfInBounds s.toNat (.int .i64 s) = #[bc (s + 1) 0, bc (s + 1) 1, bc (s + 1) 2, bc (s + 1) 3, bc (s + 1) 4, bc (s + 1) 5, bc (s + 1) 6, bc (s + 1) 7] := by
  obtain rfl | rfl | rfl | rfl | rfl | rfl | rfl : s = 1 ∨ s = 2 ∨ s = 3 ∨ s = 4 ∨ s = 5 ∨ s = 6 ∨ s = 7 := by omega
  all_goals rfl
set_option maxHeartbeats 16000000 in
set_option maxRecDepth 100000 in
theorem plain09T (A0_ : Option Addr) (c0 : Nat) (xs : List S50) (w : World) (hr0 : Kd.C k50 w A0_ xs.length xs) (hc0 : xs.length ≤ c0) :
    Calls Try.prog 6 #[.slice A0_ xs.length c0] w fun e w' => e = .returned (.bool true) ∧ Below w.heap.size w w' := by
  have hu25 := Try.underlying25
  have hu28 := Try.underlying28
  have hu23 := Try.underlying23
  have hu44 := Try.underlying44
  have hu46 := Try.underlying46
  have hu50 := Try.underlying50
  have hu66 := Try.underlying66
  have hu38 := Try.underlying38
  have e38 := eq38
  have hf0 : ∀ (a b : Int) (c : Bool) W, (Instr.field 28 (.agg #[.int .u64 a, .int .i64 b, .bool c]) 0).run Try.prog W = .ok (.int .u64 a) W := fun _ _ _ _ => by kernel_rfl
  have HR := Aside0.mk hr0
  have HC := Aside0.mk hc0
  clear hr0 hc0
  go_enter Try.func6, Try.ntmps6
  go_wp2_with fail
  refine (awake09_T w).mono ?_
  rintro e w1 ⟨rfl, hb⟩
  have B1 := Aside0.mk hb
  clear hb
  go_wp2_with fail
  refine (inew_T w1).mono ?_
  rintro e w2 ⟨gi, g1, g2, gs, g3, rfl, h1, h2⟩
  have I2 := Aside0.mk (h1.rebase (w0 := w) B1.out.size)
  have B2 := Aside0.mk (below_step B1.out h2)
  clear h1 h2 B1
  go_wp2_with fail
  refine (pnew_T w2).mono ?_
  rintro e w3 ⟨gp, gc, gm, rfl, h1, h2⟩
  have I3 := Aside0.mk ((I2.out.below h2).alloc (.cells #[.int .i64 0, .int .i64 0, .int .i64 0, .int .i64 0, .int .i64 0, .int .i64 0, .int .i64 0, .int .i64 0] 66))
  have P3 := Aside0.mk ((h1.rebase (w0 := w) B2.out.size).alloc (.cells #[.int .i64 0, .int .i64 0, .int .i64 0, .int .i64 0, .int .i64 0, .int .i64 0, .int .i64 0, .int .i64 0] 66))
  have GN := Aside0.mk (show gm ≠ g1 ∧ gm ≠ g2 ∧ gm ≠ g3 by
    have m1 := h1.cells.b1
    have m2 := I2.out.words.lt
    have m3 := I2.out.leads.lt
    obtain ⟨v, hv⟩ := I2.out.soul
    have m4 := hv.map.lt
    omega)
  have B3 := Aside0.mk (below_alloc (below_step B2.out h2) (.cells #[.int .i64 0, .int .i64 0, .int .i64 0, .int .i64 0, .int .i64 0, .int .i64 0, .int .i64 0, .int .i64 0] 66))
  have GB3 := Aside0.mk (show (w3.alloc (.cells #[.int .i64 0, .int .i64 0, .int .i64 0, .int .i64 0, .int .i64 0, .int .i64 0, .int .i64 0, .int .i64 0] 66)).heap[w3.heap.size]? = some (.cells #[bc 1 0, bc 1 1, bc 1 2, bc 1 3, bc 1 4, bc 1 5, bc 1 6, bc 1 7] 66 (0, 0)) from blk_new w3 _)
  have GW := Aside0.mk (show w.heap.size ≤ w3.heap.size from (below_step B2.out h2).size)
  clear h1 h2 I2 B2
  go_wp2_with fail
  generalize w3.alloc (.cells #[.int .i64 0, .int .i64 0, .int .i64 0, .int .i64 0, .int .i64 0, .int .i64 0, .int .i64 0, .int .i64 0] 66) = w4 at *
  generalize w3.heap.size = gb at *
  go_loopg [6] 8 (fun kq v6 w' => ∃ (s : Int) (A : ISt), v6 = .int .i64 s ∧ Aside0 (1 ≤ s ∧ s ≤ 8 ∧ s + kq = 9) ∧ Aside0 (IdealIs w w' gi g1 g2 gs g3 A) ∧ Aside0 (PlainIs w w' gp gc gm C0) ∧ Aside0 (Below w.heap.size w w') ∧ Aside0 (w'.heap[gb]? = some (.cells #[bc s 0, bc s 1, bc s 2, bc s 3, bc s 4, bc s 5, bc s 6, bc s 7] 66 (0, 0))) ∧ Aside0 (Born A s))
  case atStart => exact ⟨1, A0, rfl, ⟨by omega⟩, I3, P3, B3, GB3, ⟨⟨rfl, rfl, rfl, rfl, rfl, rfl, rfl, fun j h1 h2 => by omega⟩⟩⟩
  case round =>
    clear I3 P3 B3 GB3
    obtain ⟨s, A, rfl, HK, JI, JP, JB, JG, JR⟩ := hrel
    by_cases hi : s < 8
    · have t1 : decide (s < 8) = true := decide_eq_true hi
      have p0 : (0 : Int) ≤ s := by have := HK.out; omega
      have q0 : s < 8 := hi
      have S1 := Aside0.mk (show 1 ≤ s ∧ s ≤ 7 by have := HK.out; omega)
      have hst := JR.out.step S1.out.1
      have RL := Aside0.mk (show A.row.length ≤ 100000 by have := JR.out.row; omega)
      clear hi
      obtain ⟨ko, rfl⟩ : ∃ m, gk = m + 1 := ⟨gk - 1, by have := HK.out; omega⟩
      have R1 := Aside0.mk hst.1
      have R2 := Aside0.mk hst.2
      clear hst
      have p0b : decide (0 ≤ s) = true := decide_eq_true p0
      have wi : wrap64 (s + 1) = s + 1 := by unfold wrap64; omega
      replace p0 := eq_true p0
      replace q0 := eq_true q0
      go_wp2_with fail
      refine (iborn_T gi g1 g2 gs g3 A s w wr JI.out JB.out RL.out).mono ?_
      rintro e w5 ⟨rfl, h1, h2, h3⟩
      rw [R2.out]
      have K1 := Aside0.mk h1
      have K2 := Aside0.mk (both1 JI.out JP.out GN.out h3)
      have K3 := Aside0.mk h2
      have K4 := Aside0.mk (JI.out.stays h3 JG.out (by decide) (by decide) (by decide))
      clear h1 h2 h3 JI JP JB JG
      have hx : w5.cell? ⟨gb, s.toNat, none⟩ = some (bc s s) := by
        rw [blk_cell K4.out s.toNat]
        have := S1.out
        obtain h | h | h | h | h | h | h : s = 1 ∨ s = 2 ∨ s = 3 ∨ s = 4 ∨ s = 5 ∨ s = 6 ∨ s = 7 := by omega
        all_goals (subst h; rfl)
      have hy := blk_frozen K4.out s.toNat
      go_wp2_with fail
      have M1 := Aside0.mk (K1.out.far K4.out (by decide) (by decide) (by decide) s.toNat (.int .i64 s))
      have M2 := Aside0.mk (K2.out.far K4.out (by decide) (by decide) s.toNat (.int .i64 s))
      have M3 := Aside0.mk (K3.out.setCell (p := ⟨gb, s.toNat, none⟩) GW.out (.int .i64 s))
      have M4 := Aside0.mk (blk_put K4.out s.toNat (.int .i64 s) (bc_set S1.out.1 S1.out.2))
      go_roundg ko
      case rel => exact ⟨s + 1, _, by first | rfl | rw [wi], ⟨by have := HK.out; have := S1.out; omega⟩, M1, M2, M3, M4, R1⟩
      case measure => exact Nat.lt_succ_self _
    · have t1 : decide (s < 8) = false := decide_eq_false hi
      obtain ⟨hk1, hk2, hk3⟩ := HK.out
      obtain rfl : s = 8 := by omega
      clear hk1 hk2 hk3
      have JL := Aside0.mk JR.out.rel
      clear hi JR HK
      go_wp2_with fail
      go_loopg [7] xs.length (fun kq v7 w' => ∃ (i : Int) (A : ISt) (C : CSt), v7 = .int .i64 i ∧ Aside0 (0 ≤ i ∧ i + kq = xs.length) ∧ Aside0 (IdealIs w w' gi g1 g2 gs g3 A) ∧ Aside0 (PlainIs w w' gp gc gm C) ∧ Aside0 (Below w.heap.size w w') ∧ Aside0 (w'.heap[gb]? = some (.cells #[bc 8 0, bc 8 1, bc 8 2, bc 8 3, bc 8 4, bc 8 5, bc 8 6, bc 8 7] 66 (0, 0))) ∧ Aside0 (Rel A C))
      case atStart => exact ⟨0, A, C0, rfl, ⟨by omega⟩, JI, JP, JB, JG, JL⟩
      case round =>
        clear JI JP JB JG JL A
        obtain ⟨i, A, C, rfl, HK, JI, JP, JB, JG, JR⟩ := hrel
        by_cases hi : i < (xs.length : Int) ∧ i < 150
        · have t1 : decide (i < (xs.length : Int)) = true := decide_eq_true hi.1
          have t2 : decide (i < 150) = true := decide_eq_true hi.2
          have p0 : (0 : Int) ≤ i := HK.out.1
          have q0 : i < (xs.length : Int) := hi.1
          have q1 := Aside0.mk hi.2
          clear hi
          obtain ⟨ko, rfl⟩ : ∃ m, gk = m + 1 := ⟨gk - 1, by have := HK.out; omega⟩
          obtain ⟨ad, e0, HXS⟩ := at_T50 HR.out i p0 q0
          cases e0
          obtain ⟨x, hx⟩ : ∃ x, xs.getD i.toNat z50 = x := ⟨_, rfl⟩
          rw [hx] at HXS
          obtain ⟨hx0, hx1, hx2, hx3, hx4, hx5, hx6, hx7, hx8, hx9, hx10⟩ := HXS
          clear hx
          obtain ⟨kd, ⟨⟨pk, ps, pp⟩, id⟩, ⟨ox, oy, ost⟩, ⟨vx, vy, vst⟩⟩ := x
          replace hx0 := (JB.out.cell (World.block_lt_of_cell? w _ hx0)).trans hx0
          replace hx1 := (JB.out.cell (World.block_lt_of_cell? w _ hx1)).trans hx1
          replace hx2 := (JB.out.cell (World.block_lt_of_cell? w _ hx2)).trans hx2
          replace hx3 := (JB.out.cell (World.block_lt_of_cell? w _ hx3)).trans hx3
          replace hx4 := (JB.out.cell (World.block_lt_of_cell? w _ hx4)).trans hx4
          replace hx5 := (JB.out.cell (World.block_lt_of_cell? w _ hx5)).trans hx5
          replace hx6 := (JB.out.cell (World.block_lt_of_cell? w _ hx6)).trans hx6
          replace hx7 := (JB.out.cell (World.block_lt_of_cell? w _ hx7)).trans hx7
          replace hx8 := (JB.out.cell (World.block_lt_of_cell? w _ hx8)).trans hx8
          replace hx9 := (JB.out.cell (World.block_lt_of_cell? w _ hx9)).trans hx9
          replace hx10 := (JB.out.cell (World.block_lt_of_cell? w _ hx10)).trans hx10
          have p0b : decide (0 ≤ i) = true := decide_eq_true p0
          have wi : wrap64 (i + 1) = i + 1 := by have := q1.out; unfold wrap64; omega
          replace p0 := eq_true p0
          replace q0 := eq_true q0
          have RI := Aside0.mk (show 0 ≤ i + 1 by have := HK.out; omega)
          by_cases hq : pk = 5
          · subst hq
            have hsl : 1 ≤ wrap64 (1 + wrap64 ((IntKind.u64.wrap ps).tmod 7)) ∧ wrap64 (1 + wrap64 ((IntKind.u64.wrap ps).tmod 7)) ≤ 7 := by
              have h : 0 ≤ IntKind.u64.wrap ps := by rw [wrapU_mod]; omega
              rw [tmod_pos h]
              unfold wrap64
              omega
            have g0 : 0 ≤ wrap64 (1 + wrap64 ((IntKind.u64.wrap ps).tmod 7)) := by omega
            have g1' : wrap64 (1 + wrap64 ((IntKind.u64.wrap ps).tmod 7)) < 8 := by omega
            have g0b : decide (0 ≤ wrap64 (1 + wrap64 ((IntKind.u64.wrap ps).tmod 7))) = true := decide_eq_true g0
            have VD := Aside0.mk (show Valid 5 (wrap64 (1 + wrap64 ((IntKind.u64.wrap ps).tmod 7))) from fun _ => hsl)
            replace g0 := eq_true g0
            replace g1' := eq_true g1'
            by_cases k1 : kd = 1
            · subst k1
              have hgb : (wr.alloc (.cells #[.int .i64 1, .int .i64 5, .int .i64 (wrap64 (1 + wrap64 ((IntKind.u64.wrap ps).tmod 7))), .int .i64 pp, .int .i64 id, .int .u64 ox, .int .i64 oy, .bool ost, .int .u64 vx, .int .i64 vy, .bool vst] 50)).cell? ⟨gb, (wrap64 (1 + wrap64 ((IntKind.u64.wrap ps).tmod 7))).toNat, none⟩ = some (.int .i64 (wrap64 (1 + wrap64 ((IntKind.u64.wrap ps).tmod 7)))) := by rw [blk_cell (blk_alloc JG.out _)]; exact bc_at hsl.1 hsl.2
              have XB := Aside0.mk (blk_drew (blk_new wr (.cells #[.int .i64 1, .int .i64 5, .int .i64 (wrap64 (1 + wrap64 ((IntKind.u64.wrap ps).tmod 7))), .int .i64 pp, .int .i64 (wrap64 (1 + wrap64 ((IntKind.u64.wrap ps).tmod 7))), .int .u64 ox, .int .i64 oy, .bool ost, .int .u64 vx, .int .i64 vy, .bool vst] 50)))
              have XI := Aside0.mk (JI.out.alloc (.cells #[.int .i64 1, .int .i64 5, .int .i64 (wrap64 (1 + wrap64 ((IntKind.u64.wrap ps).tmod 7))), .int .i64 pp, .int .i64 (wrap64 (1 + wrap64 ((IntKind.u64.wrap ps).tmod 7))), .int .u64 ox, .int .i64 oy, .bool ost, .int .u64 vx, .int .i64 vy, .bool vst] 50)).drew
              have XP := Aside0.mk (JP.out.alloc (.cells #[.int .i64 1, .int .i64 5, .int .i64 (wrap64 (1 + wrap64 ((IntKind.u64.wrap ps).tmod 7))), .int .i64 pp, .int .i64 (wrap64 (1 + wrap64 ((IntKind.u64.wrap ps).tmod 7))), .int .u64 ox, .int .i64 oy, .bool ost, .int .u64 vx, .int .i64 vy, .bool vst] 50)).drew
              have XJ := Aside0.mk (below_drew (below_alloc JB.out (.cells #[.int .i64 1, .int .i64 5, .int .i64 (wrap64 (1 + wrap64 ((IntKind.u64.wrap ps).tmod 7))), .int .i64 pp, .int .i64 (wrap64 (1 + wrap64 ((IntKind.u64.wrap ps).tmod 7))), .int .u64 ox, .int .i64 oy, .bool ost, .int .u64 vx, .int .i64 vy, .bool vst] 50)))
              have XG := Aside0.mk (blk_drew (blk_alloc JG.out (.cells #[.int .i64 1, .int .i64 5, .int .i64 (wrap64 (1 + wrap64 ((IntKind.u64.wrap ps).tmod 7))), .int .i64 pp, .int .i64 (wrap64 (1 + wrap64 ((IntKind.u64.wrap ps).tmod 7))), .int .u64 ox, .int .i64 oy, .bool ost, .int .u64 vx, .int .i64 vy, .bool vst] 50)))
              clear hsl
              go_wp2_with fail
              generalize wrap64 (1 + wrap64 ((IntKind.u64.wrap ps).tmod 7)) = sl at *
              have V1 := Aside0.mk (show (get A.words (ofK 5 sl pp sl)).getD 0 = getw C.m (5, sl, pp) from (JR.out.words _ _ _ VD.out))
              refine start_ (n := 12) (S := fun w' => w'.cell? ⟨wr.heap.size, 1, none⟩ = some (.int .i64 5) ∧ w'.cell? ⟨wr.heap.size, 2, none⟩ = some (.int .i64 sl) ∧ w'.cell? ⟨wr.heap.size, 3, none⟩ = some (.int .i64 pp) ∧ w'.cell? ⟨wr.heap.size, 4, none⟩ = some (.int .i64 sl)) (ds := [8]) #[false, false, false, false, false, false, false, false, false, false, false, false] (by kernel_rfl) rfl rfl ⟨(blk_cell XB.out 1).trans rfl, (blk_cell XB.out 2).trans rfl, (blk_cell XB.out 3).trans rfl, (blk_cell XB.out 4).trans rfl⟩ (fun hHeld => ?_)
              refine pure_ (i := 0) (N := some 66) (v := ?_) (a' := ?_) #[true, false, false, false, false, false, false, false, false, false, false, false] rfl rfl (by kernel_rfl) (fun _ _ _ h => h) (Or.inl ⟨by rfl, ?_⟩) ?_ ?_
              rotate_left
              · intro w'
                go_simp
                with_reducible rfl
              rotate_left
              · simp only [Act.put, List.setIfInBounds_toArray, List.set_cons_zero, List.set_cons_succ, i64_w, i32_w]
                rfl
              refine pure_ (i := 1) (N := some 67) (v := ?_) (a' := ?_) #[true, true, false, false, false, false, false, false, false, false, false, false] rfl rfl (by kernel_rfl) (fun _ _ _ h => h) (Or.inl ⟨by rfl, ?_⟩) ?_ ?_
              rotate_left
              · intro w'
                go_simp
                with_reducible rfl
              rotate_left
              · simp only [Act.put, List.setIfInBounds_toArray, List.set_cons_zero, List.set_cons_succ, i64_w, i32_w]
                rfl
              refine pure_ (i := 5) (N := some 71) (v := ?_) (a' := ?_) #[true, true, false, false, false, true, false, false, false, false, false, false] rfl rfl (by kernel_rfl) (fun _ _ _ h => h) (Or.inl ⟨by rfl, ?_⟩) ?_ ?_
              rotate_left
              · intro w'
                go_simp
                with_reducible rfl
              rotate_left
              · simp only [Act.put, List.setIfInBounds_toArray, List.set_cons_zero, List.set_cons_succ, i64_w, i32_w]
                rfl
              refine pure_ (i := 6) (N := some 72) (v := ?_) (a' := ?_) #[true, true, false, false, false, true, true, false, false, false, false, false] rfl rfl (by kernel_rfl) (fun _ _ _ h => h) (Or.inl ⟨by rfl, ?_⟩) ?_ ?_
              rotate_left
              · intro w'
                go_simp
                with_reducible rfl
              rotate_left
              · simp only [Act.put, List.setIfInBounds_toArray, List.set_cons_zero, List.set_cons_succ, i64_w, i32_w]
                rfl
              refine take_ (i := 2) (N := some 68) (v := ?_) (a' := ?_) #[true, true, true, false, false, true, true, false, false, false, false, false] rfl rfl (by kernel_rfl) (fun _ _ _ h => h) (Or.inl ⟨by rfl, ?_⟩) hHeld ?_ ?_
              rotate_left
              · rintro w' ⟨s0, s1, s2, s3⟩
                go_simp
                with_reducible rfl
              rotate_left
              · simp only [Act.put, List.setIfInBounds_toArray, List.set_cons_zero, List.set_cons_succ, i64_w, i32_w]
                rfl
              refine take_ (i := 7) (N := some 73) (v := ?_) (a' := ?_) #[true, true, true, false, false, true, true, true, false, false, false, false] rfl rfl (by kernel_rfl) (fun _ _ _ h => h) (Or.inl ⟨by rfl, ?_⟩) hHeld ?_ ?_
              rotate_left
              · rintro w' ⟨s0, s1, s2, s3⟩
                go_simp
                with_reducible rfl
              rotate_left
              · simp only [Act.put, List.setIfInBounds_toArray, List.set_cons_zero, List.set_cons_succ, i64_w, i32_w]
                rfl
              refine one_ (i := 3) (N := some 69) #[true, true, true, true, false, true, true, true, false, false, false, false] rfl rfl (by kernel_rfl) (by decide) (fun K hK => ?_)
              refine goes_ Try.func17 (by kernel_rfl) rfl #[.pointer (some ⟨gi, 0, none⟩), Value.agg #[.int .i64 5, .int .i64 sl, .int .i64 pp, .int .i64 sl]] (by rfl) rfl rfl (by simp only [List.map_toArray, List.map_cons, List.map_nil]; rfl) ?_
              with_reducible refine (iload_T gi g1 g2 gs g3 A 5 sl pp sl w _ XI.out XJ.out).mono ?_
              rintro e w5 ⟨rfl, h1_, h2_, h3_⟩
              refine ⟨_, rfl, ?_⟩
              rw [V1.out]
              have YI := Aside0.mk h1_
              have YP := Aside0.mk (both1 XI.out XP.out GN.out h3_)
              have YJ := Aside0.mk h2_
              have YB := Aside0.mk (XI.out.stays h3_ XB.out (by decide) (by decide) (by decide))
              have YG := Aside0.mk (XI.out.stays h3_ XG.out (by decide) (by decide) (by decide))
              clear h1_ h2_ h3_
              refine hK.out _ _ ⟨(blk_cell YB.out 1).trans rfl, (blk_cell YB.out 2).trans rfl, (blk_cell YB.out 3).trans rfl, (blk_cell YB.out 4).trans rfl⟩ (fun hHeld => ?_)
              clear hK K
              refine norm_ (a' := ?_) ?_ ?_
              rotate_left
              · show Act.put _ (some 69) _ = _
                simp only [Act.put, List.setIfInBounds_toArray, List.set_cons_zero, List.set_cons_succ, i64_w, i32_w]
                rfl
              refine pure_ (i := 4) (N := some 70) (v := ?_) (a' := ?_) #[true, true, true, true, true, true, true, true, false, false, false, false] rfl rfl (by kernel_rfl) (fun _ _ _ h => h) (Or.inl ⟨by rfl, ?_⟩) ?_ ?_
              rotate_left
              · intro w'
                go_simp
                with_reducible rfl
              rotate_left
              · simp only [Act.put, List.setIfInBounds_toArray, List.set_cons_zero, List.set_cons_succ, i64_w, i32_w]
                rfl
              refine last_ (i := 8) (N := some 74) #[true, true, true, true, true, true, true, true, true, false, false, false] rfl rfl (by kernel_rfl) (by decide) (fun K hK => ?_)
              refine goes_ Try.func31 (by kernel_rfl) rfl #[.pointer (some ⟨gp, 0, none⟩), Value.agg #[.int .i64 5, .int .i64 sl, .int .i64 pp, .int .i64 sl]] (by rfl) rfl rfl (by simp only [List.map_toArray, List.map_cons, List.map_nil]; rfl) ?_
              with_reducible refine (pload_T gp gc gm C 5 sl pp sl w _ YP.out YJ.out).mono ?_
              rintro e w6 ⟨rfl, h1_, h2_, h3_⟩
              refine ⟨_, rfl, ?_⟩
              have ZP := Aside0.mk h1_
              have ZI := Aside0.mk (both2 YI.out YP.out GN.out h3_)
              have ZJ := Aside0.mk h2_
              have ZG := Aside0.mk (YP.out.cells.stays h3_ YG.out (by decide))
              clear h1_ h2_ h3_
              refine hK.out _ _ ?_
              clear hK K
              refine norm_ (a' := ?_) ?_ ?_
              rotate_left
              · show Act.put _ (some 74) _ = _
                simp only [Act.put, List.setIfInBounds_toArray, List.set_cons_zero, List.set_cons_succ, i64_w, i32_w]
                rfl
              refine pure_ (i := 9) (N := some 75) (v := ?_) (a' := ?_) #[true, true, true, true, true, true, true, true, true, true, false, false] rfl rfl (by kernel_rfl) (fun _ _ _ h => h) (Or.inl ⟨by rfl, ?_⟩) ?_ ?_
              rotate_left
              · intro w'
                go_simp
                with_reducible rfl
              rotate_left
              · simp only [Act.put, List.setIfInBounds_toArray, List.set_cons_zero, List.set_cons_succ, i64_w, i32_w]
                rfl
              refine pure_ (i := 10) (N := some 76) (v := ?_) (a' := ?_) #[true, true, true, true, true, true, true, true, true, true, true, false] rfl rfl (by kernel_rfl) (fun _ _ _ h => h) (Or.inl ⟨by rfl, ?_⟩) ?_ ?_
              rotate_left
              · intro w'
                go_simp
                with_reducible rfl
              rotate_left
              · simp only [Act.put, List.setIfInBounds_toArray, List.set_cons_zero, List.set_cons_succ, i64_w, i32_w]
                rfl
              refine pure_ (i := 11) (N := some 9) (v := ?_) (a' := ?_) #[true, true, true, true, true, true, true, true, true, true, true, true] rfl rfl (by kernel_rfl) (fun _ _ _ h => h) (Or.inl ⟨by rfl, ?_⟩) ?_ ?_
              rotate_left
              · intro w'
                go_simp
                with_reducible rfl
              rotate_left
              · simp only [Act.put, List.setIfInBounds_toArray, List.set_cons_zero, List.set_cons_succ, i64_w, i32_w]
                rfl
              refine done_ (by kernel_rfl) ?_
              have ZR := Aside0.mk JR.out.load
              clear hx0 hx1 hx2 hx3 hx4 hx5 hx6 hx7 hx8 hx9 hx10
              go_wp2_with fail
              go_roundg ko
              case rel => exact ⟨i + 1, _, _, by first | rfl | rw [wi], ⟨by have := HK.out; have := RI.out; omega⟩, ZI, ZP, ZJ, ZG, ZR⟩
              case measure => exact Nat.lt_succ_self _
            have u1 : (kd == 1) = false := beq_eq_false_iff_ne.mpr k1
            clear k1
            by_cases k2 : kd = 2
            · subst k2
              have hgb : (wr.alloc (.cells #[.int .i64 2, .int .i64 5, .int .i64 (wrap64 (1 + wrap64 ((IntKind.u64.wrap ps).tmod 7))), .int .i64 pp, .int .i64 id, .int .u64 ox, .int .i64 oy, .bool ost, .int .u64 vx, .int .i64 vy, .bool vst] 50)).cell? ⟨gb, (wrap64 (1 + wrap64 ((IntKind.u64.wrap ps).tmod 7))).toNat, none⟩ = some (.int .i64 (wrap64 (1 + wrap64 ((IntKind.u64.wrap ps).tmod 7)))) := by rw [blk_cell (blk_alloc JG.out _)]; exact bc_at hsl.1 hsl.2
              have XB := Aside0.mk (blk_new wr (.cells #[.int .i64 2, .int .i64 5, .int .i64 (wrap64 (1 + wrap64 ((IntKind.u64.wrap ps).tmod 7))), .int .i64 pp, .int .i64 (wrap64 (1 + wrap64 ((IntKind.u64.wrap ps).tmod 7))), .int .u64 ox, .int .i64 oy, .bool ost, .int .u64 vx, .int .i64 vy, .bool vst] 50))
              have XI := Aside0.mk (JI.out.alloc (.cells #[.int .i64 2, .int .i64 5, .int .i64 (wrap64 (1 + wrap64 ((IntKind.u64.wrap ps).tmod 7))), .int .i64 pp, .int .i64 (wrap64 (1 + wrap64 ((IntKind.u64.wrap ps).tmod 7))), .int .u64 ox, .int .i64 oy, .bool ost, .int .u64 vx, .int .i64 vy, .bool vst] 50))
              have XP := Aside0.mk (JP.out.alloc (.cells #[.int .i64 2, .int .i64 5, .int .i64 (wrap64 (1 + wrap64 ((IntKind.u64.wrap ps).tmod 7))), .int .i64 pp, .int .i64 (wrap64 (1 + wrap64 ((IntKind.u64.wrap ps).tmod 7))), .int .u64 ox, .int .i64 oy, .bool ost, .int .u64 vx, .int .i64 vy, .bool vst] 50))
              have XJ := Aside0.mk (below_alloc JB.out (.cells #[.int .i64 2, .int .i64 5, .int .i64 (wrap64 (1 + wrap64 ((IntKind.u64.wrap ps).tmod 7))), .int .i64 pp, .int .i64 (wrap64 (1 + wrap64 ((IntKind.u64.wrap ps).tmod 7))), .int .u64 ox, .int .i64 oy, .bool ost, .int .u64 vx, .int .i64 vy, .bool vst] 50))
              have XG := Aside0.mk (blk_alloc JG.out (.cells #[.int .i64 2, .int .i64 5, .int .i64 (wrap64 (1 + wrap64 ((IntKind.u64.wrap ps).tmod 7))), .int .i64 pp, .int .i64 (wrap64 (1 + wrap64 ((IntKind.u64.wrap ps).tmod 7))), .int .u64 ox, .int .i64 oy, .bool ost, .int .u64 vx, .int .i64 vy, .bool vst] 50))
              clear hsl
              have b1 : (wr.alloc (.cells #[.int .i64 2, .int .i64 5, .int .i64 (wrap64 (1 + wrap64 ((IntKind.u64.wrap ps).tmod 7))), .int .i64 pp, .int .i64 (wrap64 (1 + wrap64 ((IntKind.u64.wrap ps).tmod 7))), .int .u64 ox, .int .i64 oy, .bool ost, .int .u64 vx, .int .i64 vy, .bool vst] 50)).cell? ⟨wr.heap.size, 1, none⟩ = some (.int .i64 5) := (blk_cell XB.out 1).trans rfl
              have b2 : (wr.alloc (.cells #[.int .i64 2, .int .i64 5, .int .i64 (wrap64 (1 + wrap64 ((IntKind.u64.wrap ps).tmod 7))), .int .i64 pp, .int .i64 (wrap64 (1 + wrap64 ((IntKind.u64.wrap ps).tmod 7))), .int .u64 ox, .int .i64 oy, .bool ost, .int .u64 vx, .int .i64 vy, .bool vst] 50)).cell? ⟨wr.heap.size, 2, none⟩ = some (.int .i64 (wrap64 (1 + wrap64 ((IntKind.u64.wrap ps).tmod 7)))) := (blk_cell XB.out 2).trans rfl
              have b3 : (wr.alloc (.cells #[.int .i64 2, .int .i64 5, .int .i64 (wrap64 (1 + wrap64 ((IntKind.u64.wrap ps).tmod 7))), .int .i64 pp, .int .i64 (wrap64 (1 + wrap64 ((IntKind.u64.wrap ps).tmod 7))), .int .u64 ox, .int .i64 oy, .bool ost, .int .u64 vx, .int .i64 vy, .bool vst] 50)).cell? ⟨wr.heap.size, 3, none⟩ = some (.int .i64 pp) := (blk_cell XB.out 3).trans rfl
              have b4 : (wr.alloc (.cells #[.int .i64 2, .int .i64 5, .int .i64 (wrap64 (1 + wrap64 ((IntKind.u64.wrap ps).tmod 7))), .int .i64 pp, .int .i64 (wrap64 (1 + wrap64 ((IntKind.u64.wrap ps).tmod 7))), .int .u64 ox, .int .i64 oy, .bool ost, .int .u64 vx, .int .i64 vy, .bool vst] 50)).cell? ⟨wr.heap.size, 4, none⟩ = some (.int .i64 (wrap64 (1 + wrap64 ((IntKind.u64.wrap ps).tmod 7)))) := (blk_cell XB.out 4).trans rfl
              have b8 : (wr.alloc (.cells #[.int .i64 2, .int .i64 5, .int .i64 (wrap64 (1 + wrap64 ((IntKind.u64.wrap ps).tmod 7))), .int .i64 pp, .int .i64 (wrap64 (1 + wrap64 ((IntKind.u64.wrap ps).tmod 7))), .int .u64 ox, .int .i64 oy, .bool ost, .int .u64 vx, .int .i64 vy, .bool vst] 50)).cell? ⟨wr.heap.size, 8, none⟩ = some (.int .u64 vx) := (blk_cell XB.out 8).trans rfl
              have b9 : (wr.alloc (.cells #[.int .i64 2, .int .i64 5, .int .i64 (wrap64 (1 + wrap64 ((IntKind.u64.wrap ps).tmod 7))), .int .i64 pp, .int .i64 (wrap64 (1 + wrap64 ((IntKind.u64.wrap ps).tmod 7))), .int .u64 ox, .int .i64 oy, .bool ost, .int .u64 vx, .int .i64 vy, .bool vst] 50)).cell? ⟨wr.heap.size, 9, none⟩ = some (.int .i64 vy) := (blk_cell XB.out 9).trans rfl
              have b10 : (wr.alloc (.cells #[.int .i64 2, .int .i64 5, .int .i64 (wrap64 (1 + wrap64 ((IntKind.u64.wrap ps).tmod 7))), .int .i64 pp, .int .i64 (wrap64 (1 + wrap64 ((IntKind.u64.wrap ps).tmod 7))), .int .u64 ox, .int .i64 oy, .bool ost, .int .u64 vx, .int .i64 vy, .bool vst] 50)).cell? ⟨wr.heap.size, 10, none⟩ = some (.bool vst) := (blk_cell XB.out 10).trans rfl
              go_wp2_with fail
              generalize wrap64 (1 + wrap64 ((IntKind.u64.wrap ps).tmod 7)) = sl at *
              refine (istore_T gi g1 g2 gs g3 A 5 sl pp sl vx vy vst w _ XI.out XJ.out).mono ?_
              rintro e w5 ⟨rfl, h1_, h2_, h3_⟩
              have YI := Aside0.mk h1_
              have YP := Aside0.mk (both1 XI.out XP.out GN.out h3_)
              have YJ := Aside0.mk h2_
              have YB := Aside0.mk (XI.out.stays h3_ XB.out (by decide) (by decide) (by decide))
              have YG := Aside0.mk (XI.out.stays h3_ XG.out (by decide) (by decide) (by decide))
              clear h1_ h2_ h3_
              clear b1 b2 b3 b4 b8 b9 b10
              have b1 : w5.cell? ⟨wr.heap.size, 1, none⟩ = some (.int .i64 5) := (blk_cell YB.out 1).trans rfl
              have b2 : w5.cell? ⟨wr.heap.size, 2, none⟩ = some (.int .i64 sl) := (blk_cell YB.out 2).trans rfl
              have b3 : w5.cell? ⟨wr.heap.size, 3, none⟩ = some (.int .i64 pp) := (blk_cell YB.out 3).trans rfl
              have b4 : w5.cell? ⟨wr.heap.size, 4, none⟩ = some (.int .i64 sl) := (blk_cell YB.out 4).trans rfl
              have b8 : w5.cell? ⟨wr.heap.size, 8, none⟩ = some (.int .u64 vx) := (blk_cell YB.out 8).trans rfl
              have b9 : w5.cell? ⟨wr.heap.size, 9, none⟩ = some (.int .i64 vy) := (blk_cell YB.out 9).trans rfl
              have b10 : w5.cell? ⟨wr.heap.size, 10, none⟩ = some (.bool vst) := (blk_cell YB.out 10).trans rfl
              go_wp2_with fail
              refine (pstore_T gp gc gm C 5 sl pp sl vx vy vst w _ YP.out YJ.out).mono ?_
              rintro e w6 ⟨rfl, h1_, h2_, h3_⟩
              have ZP := Aside0.mk h1_
              have ZI := Aside0.mk (both2 YI.out YP.out GN.out h3_)
              have ZJ := Aside0.mk h2_
              have ZG := Aside0.mk (YP.out.cells.stays h3_ YG.out (by decide))
              clear h1_ h2_ h3_
              have ZR := Aside0.mk (show Rel (storeA A (ofK 5 sl pp sl) vx vy) (cstoreC C (5, sl, pp) vx) by exact JR.out.store JP.out.cells.once VD.out vx vy)
              clear hx0 hx1 hx2 hx3 hx4 hx5 hx6 hx7 hx8 hx9 hx10
              go_wp2_with fail
              go_roundg ko
              case rel => exact ⟨i + 1, _, _, by first | rfl | rw [wi], ⟨by have := HK.out; have := RI.out; omega⟩, ZI, ZP, ZJ, ZG, ZR⟩
              case measure => exact Nat.lt_succ_self _
            have u2 : (kd == 2) = false := beq_eq_false_iff_ne.mpr k2
            clear k2
            by_cases k3 : kd = 3
            · subst k3
              have hgb : (wr.alloc (.cells #[.int .i64 3, .int .i64 5, .int .i64 (wrap64 (1 + wrap64 ((IntKind.u64.wrap ps).tmod 7))), .int .i64 pp, .int .i64 id, .int .u64 ox, .int .i64 oy, .bool ost, .int .u64 vx, .int .i64 vy, .bool vst] 50)).cell? ⟨gb, (wrap64 (1 + wrap64 ((IntKind.u64.wrap ps).tmod 7))).toNat, none⟩ = some (.int .i64 (wrap64 (1 + wrap64 ((IntKind.u64.wrap ps).tmod 7)))) := by rw [blk_cell (blk_alloc JG.out _)]; exact bc_at hsl.1 hsl.2
              have XB := Aside0.mk (blk_drew (blk_new wr (.cells #[.int .i64 3, .int .i64 5, .int .i64 (wrap64 (1 + wrap64 ((IntKind.u64.wrap ps).tmod 7))), .int .i64 pp, .int .i64 (wrap64 (1 + wrap64 ((IntKind.u64.wrap ps).tmod 7))), .int .u64 ox, .int .i64 oy, .bool ost, .int .u64 vx, .int .i64 vy, .bool vst] 50)))
              have XI := Aside0.mk (JI.out.alloc (.cells #[.int .i64 3, .int .i64 5, .int .i64 (wrap64 (1 + wrap64 ((IntKind.u64.wrap ps).tmod 7))), .int .i64 pp, .int .i64 (wrap64 (1 + wrap64 ((IntKind.u64.wrap ps).tmod 7))), .int .u64 ox, .int .i64 oy, .bool ost, .int .u64 vx, .int .i64 vy, .bool vst] 50)).drew
              have XP := Aside0.mk (JP.out.alloc (.cells #[.int .i64 3, .int .i64 5, .int .i64 (wrap64 (1 + wrap64 ((IntKind.u64.wrap ps).tmod 7))), .int .i64 pp, .int .i64 (wrap64 (1 + wrap64 ((IntKind.u64.wrap ps).tmod 7))), .int .u64 ox, .int .i64 oy, .bool ost, .int .u64 vx, .int .i64 vy, .bool vst] 50)).drew
              have XJ := Aside0.mk (below_drew (below_alloc JB.out (.cells #[.int .i64 3, .int .i64 5, .int .i64 (wrap64 (1 + wrap64 ((IntKind.u64.wrap ps).tmod 7))), .int .i64 pp, .int .i64 (wrap64 (1 + wrap64 ((IntKind.u64.wrap ps).tmod 7))), .int .u64 ox, .int .i64 oy, .bool ost, .int .u64 vx, .int .i64 vy, .bool vst] 50)))
              have XG := Aside0.mk (blk_drew (blk_alloc JG.out (.cells #[.int .i64 3, .int .i64 5, .int .i64 (wrap64 (1 + wrap64 ((IntKind.u64.wrap ps).tmod 7))), .int .i64 pp, .int .i64 (wrap64 (1 + wrap64 ((IntKind.u64.wrap ps).tmod 7))), .int .u64 ox, .int .i64 oy, .bool ost, .int .u64 vx, .int .i64 vy, .bool vst] 50)))
              clear hsl
              go_wp2_with fail
              generalize wrap64 (1 + wrap64 ((IntKind.u64.wrap ps).tmod 7)) = sl at *
              have V1 := Aside0.mk (show swapR A (ofK 5 sl pp sl) ox = cswapR C (5, sl, pp) ox by exact JR.out.swapR VD.out ox)
              refine start_ (n := 18) (S := fun w' => w'.cell? ⟨wr.heap.size, 1, none⟩ = some (.int .i64 5) ∧ w'.cell? ⟨wr.heap.size, 2, none⟩ = some (.int .i64 sl) ∧ w'.cell? ⟨wr.heap.size, 3, none⟩ = some (.int .i64 pp) ∧ w'.cell? ⟨wr.heap.size, 4, none⟩ = some (.int .i64 sl) ∧ w'.cell? ⟨wr.heap.size, 5, none⟩ = some (.int .u64 ox) ∧ w'.cell? ⟨wr.heap.size, 6, none⟩ = some (.int .i64 oy) ∧ w'.cell? ⟨wr.heap.size, 7, none⟩ = some (.bool ost) ∧ w'.cell? ⟨wr.heap.size, 8, none⟩ = some (.int .u64 vx) ∧ w'.cell? ⟨wr.heap.size, 9, none⟩ = some (.int .i64 vy) ∧ w'.cell? ⟨wr.heap.size, 10, none⟩ = some (.bool vst)) (ds := [15]) #[false, false, false, false, false, false, false, false, false, false, false, false, false, false, false, false, false, false] (by kernel_rfl) rfl rfl ⟨(blk_cell XB.out 1).trans rfl, (blk_cell XB.out 2).trans rfl, (blk_cell XB.out 3).trans rfl, (blk_cell XB.out 4).trans rfl, (blk_cell XB.out 5).trans rfl, (blk_cell XB.out 6).trans rfl, (blk_cell XB.out 7).trans rfl, (blk_cell XB.out 8).trans rfl, (blk_cell XB.out 9).trans rfl, (blk_cell XB.out 10).trans rfl⟩ (fun hHeld => ?_)
              refine pure_ (i := 0) (N := some 93) (v := ?_) (a' := ?_) #[true, false, false, false, false, false, false, false, false, false, false, false, false, false, false, false, false, false] rfl rfl (by kernel_rfl) (fun _ _ _ h => h) (Or.inl ⟨by rfl, ?_⟩) ?_ ?_
              rotate_left
              · intro w'
                go_simp
                with_reducible rfl
              rotate_left
              · simp only [Act.put, List.setIfInBounds_toArray, List.set_cons_zero, List.set_cons_succ, i64_w, i32_w]
                rfl
              refine pure_ (i := 1) (N := some 94) (v := ?_) (a' := ?_) #[true, true, false, false, false, false, false, false, false, false, false, false, false, false, false, false, false, false] rfl rfl (by kernel_rfl) (fun _ _ _ h => h) (Or.inl ⟨by rfl, ?_⟩) ?_ ?_
              rotate_left
              · intro w'
                go_simp
                with_reducible rfl
              rotate_left
              · simp only [Act.put, List.setIfInBounds_toArray, List.set_cons_zero, List.set_cons_succ, i64_w, i32_w]
                rfl
              refine pure_ (i := 3) (N := some 96) (v := ?_) (a' := ?_) #[true, true, false, true, false, false, false, false, false, false, false, false, false, false, false, false, false, false] rfl rfl (by kernel_rfl) (fun _ _ _ h => h) (Or.inl ⟨by rfl, ?_⟩) ?_ ?_
              rotate_left
              · intro w'
                go_simp
                with_reducible rfl
              rotate_left
              · simp only [Act.put, List.setIfInBounds_toArray, List.set_cons_zero, List.set_cons_succ, i64_w, i32_w]
                rfl
              refine pure_ (i := 5) (N := some 98) (v := ?_) (a' := ?_) #[true, true, false, true, false, true, false, false, false, false, false, false, false, false, false, false, false, false] rfl rfl (by kernel_rfl) (fun _ _ _ h => h) (Or.inl ⟨by rfl, ?_⟩) ?_ ?_
              rotate_left
              · intro w'
                go_simp
                with_reducible rfl
              rotate_left
              · simp only [Act.put, List.setIfInBounds_toArray, List.set_cons_zero, List.set_cons_succ, i64_w, i32_w]
                rfl
              refine pure_ (i := 8) (N := some 101) (v := ?_) (a' := ?_) #[true, true, false, true, false, true, false, false, true, false, false, false, false, false, false, false, false, false] rfl rfl (by kernel_rfl) (fun _ _ _ h => h) (Or.inl ⟨by rfl, ?_⟩) ?_ ?_
              rotate_left
              · intro w'
                go_simp
                with_reducible rfl
              rotate_left
              · simp only [Act.put, List.setIfInBounds_toArray, List.set_cons_zero, List.set_cons_succ, i64_w, i32_w]
                rfl
              refine pure_ (i := 9) (N := some 102) (v := ?_) (a' := ?_) #[true, true, false, true, false, true, false, false, true, true, false, false, false, false, false, false, false, false] rfl rfl (by kernel_rfl) (fun _ _ _ h => h) (Or.inl ⟨by rfl, ?_⟩) ?_ ?_
              rotate_left
              · intro w'
                go_simp
                with_reducible rfl
              rotate_left
              · simp only [Act.put, List.setIfInBounds_toArray, List.set_cons_zero, List.set_cons_succ, i64_w, i32_w]
                rfl
              refine pure_ (i := 11) (N := some 104) (v := ?_) (a' := ?_) #[true, true, false, true, false, true, false, false, true, true, false, true, false, false, false, false, false, false] rfl rfl (by kernel_rfl) (fun _ _ _ h => h) (Or.inl ⟨by rfl, ?_⟩) ?_ ?_
              rotate_left
              · intro w'
                go_simp
                with_reducible rfl
              rotate_left
              · simp only [Act.put, List.setIfInBounds_toArray, List.set_cons_zero, List.set_cons_succ, i64_w, i32_w]
                rfl
              refine pure_ (i := 13) (N := some 106) (v := ?_) (a' := ?_) #[true, true, false, true, false, true, false, false, true, true, false, true, false, true, false, false, false, false] rfl rfl (by kernel_rfl) (fun _ _ _ h => h) (Or.inl ⟨by rfl, ?_⟩) ?_ ?_
              rotate_left
              · intro w'
                go_simp
                with_reducible rfl
              rotate_left
              · simp only [Act.put, List.setIfInBounds_toArray, List.set_cons_zero, List.set_cons_succ, i64_w, i32_w]
                rfl
              refine take_ (i := 2) (N := some 95) (v := ?_) (a' := ?_) #[true, true, true, true, false, true, false, false, true, true, false, true, false, true, false, false, false, false] rfl rfl (by kernel_rfl) (fun _ _ _ h => h) (Or.inl ⟨by rfl, ?_⟩) hHeld ?_ ?_
              rotate_left
              · rintro w' ⟨s0, s1, s2, s3, s4, s5, s6, s7, s8, s9⟩
                go_simp
                with_reducible rfl
              rotate_left
              · simp only [Act.put, List.setIfInBounds_toArray, List.set_cons_zero, List.set_cons_succ, i64_w, i32_w]
                rfl
              refine take_ (i := 4) (N := some 97) (v := ?_) (a' := ?_) #[true, true, true, true, true, true, false, false, true, true, false, true, false, true, false, false, false, false] rfl rfl (by kernel_rfl) (fun _ _ _ h => h) (Or.inl ⟨by rfl, ?_⟩) hHeld ?_ ?_
              rotate_left
              · rintro w' ⟨s0, s1, s2, s3, s4, s5, s6, s7, s8, s9⟩
                go_simp
                with_reducible rfl
              rotate_left
              · simp only [Act.put, List.setIfInBounds_toArray, List.set_cons_zero, List.set_cons_succ, i64_w, i32_w]
                rfl
              refine take_ (i := 6) (N := some 99) (v := ?_) (a' := ?_) #[true, true, true, true, true, true, true, false, true, true, false, true, false, true, false, false, false, false] rfl rfl (by kernel_rfl) (fun _ _ _ h => h) (Or.inl ⟨by rfl, ?_⟩) hHeld ?_ ?_
              rotate_left
              · rintro w' ⟨s0, s1, s2, s3, s4, s5, s6, s7, s8, s9⟩
                go_simp
                with_reducible rfl
              rotate_left
              · simp only [Act.put, List.setIfInBounds_toArray, List.set_cons_zero, List.set_cons_succ, i64_w, i32_w]
                rfl
              refine take_ (i := 10) (N := some 103) (v := ?_) (a' := ?_) #[true, true, true, true, true, true, true, false, true, true, true, true, false, true, false, false, false, false] rfl rfl (by kernel_rfl) (fun _ _ _ h => h) (Or.inl ⟨by rfl, ?_⟩) hHeld ?_ ?_
              rotate_left
              · rintro w' ⟨s0, s1, s2, s3, s4, s5, s6, s7, s8, s9⟩
                go_simp
                with_reducible rfl
              rotate_left
              · simp only [Act.put, List.setIfInBounds_toArray, List.set_cons_zero, List.set_cons_succ, i64_w, i32_w]
                rfl
              refine take_ (i := 12) (N := some 105) (v := ?_) (a' := ?_) #[true, true, true, true, true, true, true, false, true, true, true, true, true, true, false, false, false, false] rfl rfl (by kernel_rfl) (fun _ _ _ h => h) (Or.inl ⟨by rfl, ?_⟩) hHeld ?_ ?_
              rotate_left
              · rintro w' ⟨s0, s1, s2, s3, s4, s5, s6, s7, s8, s9⟩
                go_simp
                with_reducible rfl
              rotate_left
              · simp only [Act.put, List.setIfInBounds_toArray, List.set_cons_zero, List.set_cons_succ, i64_w, i32_w]
                rfl
              refine take_ (i := 14) (N := some 107) (v := ?_) (a' := ?_) #[true, true, true, true, true, true, true, false, true, true, true, true, true, true, true, false, false, false] rfl rfl (by kernel_rfl) (fun _ _ _ h => h) (Or.inl ⟨by rfl, ?_⟩) hHeld ?_ ?_
              rotate_left
              · rintro w' ⟨s0, s1, s2, s3, s4, s5, s6, s7, s8, s9⟩
                go_simp
                with_reducible rfl
              rotate_left
              · simp only [Act.put, List.setIfInBounds_toArray, List.set_cons_zero, List.set_cons_succ, i64_w, i32_w]
                rfl
              refine one_ (i := 7) (N := some 100) #[true, true, true, true, true, true, true, true, true, true, true, true, true, true, true, false, false, false] rfl rfl (by kernel_rfl) (by decide) (fun K hK => ?_)
              refine goes_ Try.func18 (by kernel_rfl) rfl #[.pointer (some ⟨gi, 0, none⟩), Value.agg #[.int .i64 5, .int .i64 sl, .int .i64 pp, .int .i64 sl], Value.agg #[.int .u64 ox, .int .i64 oy, .bool ost], Value.agg #[.int .u64 vx, .int .i64 vy, .bool vst]] (by rfl) rfl rfl (by simp only [List.map_toArray, List.map_cons, List.map_nil]; rfl) ?_
              with_reducible refine (iswap_T gi g1 g2 gs g3 A 5 sl pp sl ox oy vx vy ost vst w _ XI.out XJ.out).mono ?_
              rintro e w5 ⟨rfl, h1_, h2_, h3_⟩
              refine ⟨_, rfl, ?_⟩
              rw [V1.out]
              have YI := Aside0.mk h1_
              have YP := Aside0.mk (both1 XI.out XP.out GN.out h3_)
              have YJ := Aside0.mk h2_
              have YB := Aside0.mk (XI.out.stays h3_ XB.out (by decide) (by decide) (by decide))
              have YG := Aside0.mk (XI.out.stays h3_ XG.out (by decide) (by decide) (by decide))
              clear h1_ h2_ h3_
              refine hK.out _ _ ⟨(blk_cell YB.out 1).trans rfl, (blk_cell YB.out 2).trans rfl, (blk_cell YB.out 3).trans rfl, (blk_cell YB.out 4).trans rfl, (blk_cell YB.out 5).trans rfl, (blk_cell YB.out 6).trans rfl, (blk_cell YB.out 7).trans rfl, (blk_cell YB.out 8).trans rfl, (blk_cell YB.out 9).trans rfl, (blk_cell YB.out 10).trans rfl⟩ (fun hHeld => ?_)
              clear hK K
              refine norm_ (a' := ?_) ?_ ?_
              rotate_left
              · show Act.put _ (some 100) _ = _
                simp only [Act.put, List.setIfInBounds_toArray, List.set_cons_zero, List.set_cons_succ, i64_w, i32_w]
                rfl
              refine last_ (i := 15) (N := some 108) #[true, true, true, true, true, true, true, true, true, true, true, true, true, true, true, true, false, false] rfl rfl (by kernel_rfl) (by decide) (fun K hK => ?_)
              refine goes_ Try.func33 (by kernel_rfl) rfl #[.pointer (some ⟨gp, 0, none⟩), Value.agg #[.int .i64 5, .int .i64 sl, .int .i64 pp, .int .i64 sl], Value.agg #[.int .u64 ox, .int .i64 oy, .bool ost], Value.agg #[.int .u64 vx, .int .i64 vy, .bool vst]] (by rfl) rfl rfl (by simp only [List.map_toArray, List.map_cons, List.map_nil]; rfl) ?_
              with_reducible refine (pswap_T gp gc gm C 5 sl pp sl ox oy vx vy ost vst w _ YP.out YJ.out).mono ?_
              rintro e w6 ⟨rfl, h1_, h2_, h3_⟩
              refine ⟨_, rfl, ?_⟩
              have ZP := Aside0.mk h1_
              have ZI := Aside0.mk (both2 YI.out YP.out GN.out h3_)
              have ZJ := Aside0.mk h2_
              have ZG := Aside0.mk (YP.out.cells.stays h3_ YG.out (by decide))
              clear h1_ h2_ h3_
              refine hK.out _ _ ?_
              clear hK K
              refine norm_ (a' := ?_) ?_ ?_
              rotate_left
              · show Act.put _ (some 108) _ = _
                simp only [Act.put, List.setIfInBounds_toArray, List.set_cons_zero, List.set_cons_succ, i64_w, i32_w]
                rfl
              refine pure_ (i := 16) (N := some 109) (v := ?_) (a' := ?_) #[true, true, true, true, true, true, true, true, true, true, true, true, true, true, true, true, true, false] rfl rfl (by kernel_rfl) (fun _ _ _ h => h) (Or.inl ⟨by rfl, ?_⟩) ?_ ?_
              rotate_left
              · intro w'
                go_simp
                with_reducible rfl
              rotate_left
              · simp only [Act.put, List.setIfInBounds_toArray, List.set_cons_zero, List.set_cons_succ, i64_w, i32_w]
                rfl
              refine pure_ (i := 17) (N := some 9) (v := ?_) (a' := ?_) #[true, true, true, true, true, true, true, true, true, true, true, true, true, true, true, true, true, true] rfl rfl (by kernel_rfl) (fun _ _ _ h => h) (Or.inl ⟨by rfl, ?_⟩) ?_ ?_
              rotate_left
              · intro w'
                go_simp
                with_reducible rfl
              rotate_left
              · simp only [Act.put, List.setIfInBounds_toArray, List.set_cons_zero, List.set_cons_succ, i64_w, i32_w]
                rfl
              refine done_ (by kernel_rfl) ?_
              have ZR := Aside0.mk (show Rel (swapA A (ofK 5 sl pp sl) ox vx vy) (cswapC C (5, sl, pp) ox vx) by exact JR.out.swap JP.out.cells.once VD.out ox vx vy)
              clear hx0 hx1 hx2 hx3 hx4 hx5 hx6 hx7 hx8 hx9 hx10
              go_wp2_with fail
              go_roundg ko
              case rel => exact ⟨i + 1, _, _, by first | rfl | rw [wi], ⟨by have := HK.out; have := RI.out; omega⟩, ZI, ZP, ZJ, ZG, ZR⟩
              case measure => exact Nat.lt_succ_self _
            have u3 : (kd == 3) = false := beq_eq_false_iff_ne.mpr k3
            clear k3
            by_cases k5 : kd = 5
            · subst k5
              have hgb : (wr.alloc (.cells #[.int .i64 5, .int .i64 5, .int .i64 (wrap64 (1 + wrap64 ((IntKind.u64.wrap ps).tmod 7))), .int .i64 pp, .int .i64 id, .int .u64 ox, .int .i64 oy, .bool ost, .int .u64 vx, .int .i64 vy, .bool vst] 50)).cell? ⟨gb, (wrap64 (1 + wrap64 ((IntKind.u64.wrap ps).tmod 7))).toNat, none⟩ = some (.int .i64 (wrap64 (1 + wrap64 ((IntKind.u64.wrap ps).tmod 7)))) := by rw [blk_cell (blk_alloc JG.out _)]; exact bc_at hsl.1 hsl.2
              have XB := Aside0.mk (blk_drew (blk_new wr (.cells #[.int .i64 5, .int .i64 5, .int .i64 (wrap64 (1 + wrap64 ((IntKind.u64.wrap ps).tmod 7))), .int .i64 pp, .int .i64 (wrap64 (1 + wrap64 ((IntKind.u64.wrap ps).tmod 7))), .int .u64 ox, .int .i64 oy, .bool ost, .int .u64 vx, .int .i64 vy, .bool vst] 50)))
              have XI := Aside0.mk (JI.out.alloc (.cells #[.int .i64 5, .int .i64 5, .int .i64 (wrap64 (1 + wrap64 ((IntKind.u64.wrap ps).tmod 7))), .int .i64 pp, .int .i64 (wrap64 (1 + wrap64 ((IntKind.u64.wrap ps).tmod 7))), .int .u64 ox, .int .i64 oy, .bool ost, .int .u64 vx, .int .i64 vy, .bool vst] 50)).drew
              have XP := Aside0.mk (JP.out.alloc (.cells #[.int .i64 5, .int .i64 5, .int .i64 (wrap64 (1 + wrap64 ((IntKind.u64.wrap ps).tmod 7))), .int .i64 pp, .int .i64 (wrap64 (1 + wrap64 ((IntKind.u64.wrap ps).tmod 7))), .int .u64 ox, .int .i64 oy, .bool ost, .int .u64 vx, .int .i64 vy, .bool vst] 50)).drew
              have XJ := Aside0.mk (below_drew (below_alloc JB.out (.cells #[.int .i64 5, .int .i64 5, .int .i64 (wrap64 (1 + wrap64 ((IntKind.u64.wrap ps).tmod 7))), .int .i64 pp, .int .i64 (wrap64 (1 + wrap64 ((IntKind.u64.wrap ps).tmod 7))), .int .u64 ox, .int .i64 oy, .bool ost, .int .u64 vx, .int .i64 vy, .bool vst] 50)))
              have XG := Aside0.mk (blk_drew (blk_alloc JG.out (.cells #[.int .i64 5, .int .i64 5, .int .i64 (wrap64 (1 + wrap64 ((IntKind.u64.wrap ps).tmod 7))), .int .i64 pp, .int .i64 (wrap64 (1 + wrap64 ((IntKind.u64.wrap ps).tmod 7))), .int .u64 ox, .int .i64 oy, .bool ost, .int .u64 vx, .int .i64 vy, .bool vst] 50)))
              clear hsl
              go_wp2_with fail
              generalize wrap64 (1 + wrap64 ((IntKind.u64.wrap ps).tmod 7)) = sl at *
              have V1 := Aside0.mk (show (get A.words (ofK 5 sl pp sl)).getD 0 = getw C.m (5, sl, pp) from (JR.out.words _ _ _ VD.out))
              refine start_ (n := 16) (S := fun w' => w'.cell? ⟨wr.heap.size, 1, none⟩ = some (.int .i64 5) ∧ w'.cell? ⟨wr.heap.size, 2, none⟩ = some (.int .i64 sl) ∧ w'.cell? ⟨wr.heap.size, 3, none⟩ = some (.int .i64 pp) ∧ w'.cell? ⟨wr.heap.size, 4, none⟩ = some (.int .i64 sl) ∧ w'.cell? ⟨wr.heap.size, 8, none⟩ = some (.int .u64 vx)) (ds := [13]) #[false, false, false, false, false, false, false, false, false, false, false, false, false, false, false, false] (by kernel_rfl) rfl rfl ⟨(blk_cell XB.out 1).trans rfl, (blk_cell XB.out 2).trans rfl, (blk_cell XB.out 3).trans rfl, (blk_cell XB.out 4).trans rfl, (blk_cell XB.out 8).trans rfl⟩ (fun hHeld => ?_)
              refine pure_ (i := 0) (N := some 112) (v := ?_) (a' := ?_) #[true, false, false, false, false, false, false, false, false, false, false, false, false, false, false, false] rfl rfl (by kernel_rfl) (fun _ _ _ h => h) (Or.inl ⟨by rfl, ?_⟩) ?_ ?_
              rotate_left
              · intro w'
                go_simp
                with_reducible rfl
              rotate_left
              · simp only [Act.put, List.setIfInBounds_toArray, List.set_cons_zero, List.set_cons_succ, i64_w, i32_w]
                rfl
              refine pure_ (i := 1) (N := some 113) (v := ?_) (a' := ?_) #[true, true, false, false, false, false, false, false, false, false, false, false, false, false, false, false] rfl rfl (by kernel_rfl) (fun _ _ _ h => h) (Or.inl ⟨by rfl, ?_⟩) ?_ ?_
              rotate_left
              · intro w'
                go_simp
                with_reducible rfl
              rotate_left
              · simp only [Act.put, List.setIfInBounds_toArray, List.set_cons_zero, List.set_cons_succ, i64_w, i32_w]
                rfl
              refine pure_ (i := 3) (N := some 115) (v := ?_) (a' := ?_) #[true, true, false, true, false, false, false, false, false, false, false, false, false, false, false, false] rfl rfl (by kernel_rfl) (fun _ _ _ h => h) (Or.inl ⟨by rfl, ?_⟩) ?_ ?_
              rotate_left
              · intro w'
                go_simp
                with_reducible rfl
              rotate_left
              · simp only [Act.put, List.setIfInBounds_toArray, List.set_cons_zero, List.set_cons_succ, i64_w, i32_w]
                rfl
              refine pure_ (i := 4) (N := some 116) (v := ?_) (a' := ?_) #[true, true, false, true, true, false, false, false, false, false, false, false, false, false, false, false] rfl rfl (by kernel_rfl) (fun _ _ _ h => h) (Or.inl ⟨by rfl, ?_⟩) ?_ ?_
              rotate_left
              · intro w'
                go_simp
                with_reducible rfl
              rotate_left
              · simp only [Act.put, List.setIfInBounds_toArray, List.set_cons_zero, List.set_cons_succ, i64_w, i32_w]
                rfl
              refine pure_ (i := 7) (N := some 119) (v := ?_) (a' := ?_) #[true, true, false, true, true, false, false, true, false, false, false, false, false, false, false, false] rfl rfl (by kernel_rfl) (fun _ _ _ h => h) (Or.inl ⟨by rfl, ?_⟩) ?_ ?_
              rotate_left
              · intro w'
                go_simp
                with_reducible rfl
              rotate_left
              · simp only [Act.put, List.setIfInBounds_toArray, List.set_cons_zero, List.set_cons_succ, i64_w, i32_w]
                rfl
              refine pure_ (i := 8) (N := some 120) (v := ?_) (a' := ?_) #[true, true, false, true, true, false, false, true, true, false, false, false, false, false, false, false] rfl rfl (by kernel_rfl) (fun _ _ _ h => h) (Or.inl ⟨by rfl, ?_⟩) ?_ ?_
              rotate_left
              · intro w'
                go_simp
                with_reducible rfl
              rotate_left
              · simp only [Act.put, List.setIfInBounds_toArray, List.set_cons_zero, List.set_cons_succ, i64_w, i32_w]
                rfl
              refine pure_ (i := 10) (N := some 122) (v := ?_) (a' := ?_) #[true, true, false, true, true, false, false, true, true, false, true, false, false, false, false, false] rfl rfl (by kernel_rfl) (fun _ _ _ h => h) (Or.inl ⟨by rfl, ?_⟩) ?_ ?_
              rotate_left
              · intro w'
                go_simp
                with_reducible rfl
              rotate_left
              · simp only [Act.put, List.setIfInBounds_toArray, List.set_cons_zero, List.set_cons_succ, i64_w, i32_w]
                rfl
              refine pure_ (i := 11) (N := some 123) (v := ?_) (a' := ?_) #[true, true, false, true, true, false, false, true, true, false, true, true, false, false, false, false] rfl rfl (by kernel_rfl) (fun _ _ _ h => h) (Or.inl ⟨by rfl, ?_⟩) ?_ ?_
              rotate_left
              · intro w'
                go_simp
                with_reducible rfl
              rotate_left
              · simp only [Act.put, List.setIfInBounds_toArray, List.set_cons_zero, List.set_cons_succ, i64_w, i32_w]
                rfl
              refine take_ (i := 2) (N := some 114) (v := ?_) (a' := ?_) #[true, true, true, true, true, false, false, true, true, false, true, true, false, false, false, false] rfl rfl (by kernel_rfl) (fun _ _ _ h => h) (Or.inl ⟨by rfl, ?_⟩) hHeld ?_ ?_
              rotate_left
              · rintro w' ⟨s0, s1, s2, s3, s4⟩
                go_simp
                with_reducible rfl
              rotate_left
              · simp only [Act.put, List.setIfInBounds_toArray, List.set_cons_zero, List.set_cons_succ, i64_w, i32_w]
                rfl
              refine take_ (i := 5) (N := some 117) (v := ?_) (a' := ?_) #[true, true, true, true, true, true, false, true, true, false, true, true, false, false, false, false] rfl rfl (by kernel_rfl) (fun _ _ _ h => h) (Or.inl ⟨by rfl, ?_⟩) hHeld ?_ ?_
              rotate_left
              · rintro w' ⟨s0, s1, s2, s3, s4⟩
                go_simp
                with_reducible rfl
              rotate_left
              · simp only [Act.put, List.setIfInBounds_toArray, List.set_cons_zero, List.set_cons_succ, i64_w, i32_w]
                rfl
              refine take_ (i := 9) (N := some 121) (v := ?_) (a' := ?_) #[true, true, true, true, true, true, false, true, true, true, true, true, false, false, false, false] rfl rfl (by kernel_rfl) (fun _ _ _ h => h) (Or.inl ⟨by rfl, ?_⟩) hHeld ?_ ?_
              rotate_left
              · rintro w' ⟨s0, s1, s2, s3, s4⟩
                go_simp
                with_reducible rfl
              rotate_left
              · simp only [Act.put, List.setIfInBounds_toArray, List.set_cons_zero, List.set_cons_succ, i64_w, i32_w]
                rfl
              refine take_ (i := 12) (N := some 124) (v := ?_) (a' := ?_) #[true, true, true, true, true, true, false, true, true, true, true, true, true, false, false, false] rfl rfl (by kernel_rfl) (fun _ _ _ h => h) (Or.inl ⟨by rfl, ?_⟩) hHeld ?_ ?_
              rotate_left
              · rintro w' ⟨s0, s1, s2, s3, s4⟩
                go_simp
                with_reducible rfl
              rotate_left
              · simp only [Act.put, List.setIfInBounds_toArray, List.set_cons_zero, List.set_cons_succ, i64_w, i32_w]
                rfl
              refine one_ (i := 6) (N := some 118) #[true, true, true, true, true, true, true, true, true, true, true, true, true, false, false, false] rfl rfl (by kernel_rfl) (by decide) (fun K hK => ?_)
              refine goes_ Try.func19 (by kernel_rfl) rfl #[.pointer (some ⟨gi, 0, none⟩), Value.agg #[.int .i64 5, .int .i64 sl, .int .i64 pp, .int .i64 sl], .int .u64 vx] (by rfl) rfl rfl (by simp only [List.map_toArray, List.map_cons, List.map_nil]; rfl) ?_
              with_reducible refine (iadd_T gi g1 g2 gs g3 A 5 sl pp sl vx w _ XI.out XJ.out).mono ?_
              rintro e w5 ⟨rfl, h1_, h2_, h3_⟩
              refine ⟨_, rfl, ?_⟩
              rw [V1.out]
              have YI := Aside0.mk h1_
              have YP := Aside0.mk (both1 XI.out XP.out GN.out h3_)
              have YJ := Aside0.mk h2_
              have YB := Aside0.mk (XI.out.stays h3_ XB.out (by decide) (by decide) (by decide))
              have YG := Aside0.mk (XI.out.stays h3_ XG.out (by decide) (by decide) (by decide))
              clear h1_ h2_ h3_
              refine hK.out _ _ ⟨(blk_cell YB.out 1).trans rfl, (blk_cell YB.out 2).trans rfl, (blk_cell YB.out 3).trans rfl, (blk_cell YB.out 4).trans rfl, (blk_cell YB.out 8).trans rfl⟩ (fun hHeld => ?_)
              clear hK K
              refine norm_ (a' := ?_) ?_ ?_
              rotate_left
              · show Act.put _ (some 118) _ = _
                simp only [Act.put, List.setIfInBounds_toArray, List.set_cons_zero, List.set_cons_succ, i64_w, i32_w]
                rfl
              refine last_ (i := 13) (N := some 125) #[true, true, true, true, true, true, true, true, true, true, true, true, true, true, false, false] rfl rfl (by kernel_rfl) (by decide) (fun K hK => ?_)
              refine goes_ Try.func34 (by kernel_rfl) rfl #[.pointer (some ⟨gp, 0, none⟩), Value.agg #[.int .i64 5, .int .i64 sl, .int .i64 pp, .int .i64 sl], .int .u64 vx] (by rfl) rfl rfl (by simp only [List.map_toArray, List.map_cons, List.map_nil]; rfl) ?_
              with_reducible refine (padd_T gp gc gm C 5 sl pp sl vx w _ YP.out YJ.out).mono ?_
              rintro e w6 ⟨rfl, h1_, h2_, h3_⟩
              refine ⟨_, rfl, ?_⟩
              have ZP := Aside0.mk h1_
              have ZI := Aside0.mk (both2 YI.out YP.out GN.out h3_)
              have ZJ := Aside0.mk h2_
              have ZG := Aside0.mk (YP.out.cells.stays h3_ YG.out (by decide))
              clear h1_ h2_ h3_
              refine hK.out _ _ ?_
              clear hK K
              refine norm_ (a' := ?_) ?_ ?_
              rotate_left
              · show Act.put _ (some 125) _ = _
                simp only [Act.put, List.setIfInBounds_toArray, List.set_cons_zero, List.set_cons_succ, i64_w, i32_w]
                rfl
              refine pure_ (i := 14) (N := some 126) (v := ?_) (a' := ?_) #[true, true, true, true, true, true, true, true, true, true, true, true, true, true, true, false] rfl rfl (by kernel_rfl) (fun _ _ _ h => h) (Or.inl ⟨by rfl, ?_⟩) ?_ ?_
              rotate_left
              · intro w'
                go_simp
                with_reducible rfl
              rotate_left
              · simp only [Act.put, List.setIfInBounds_toArray, List.set_cons_zero, List.set_cons_succ, i64_w, i32_w]
                rfl
              refine pure_ (i := 15) (N := some 9) (v := ?_) (a' := ?_) #[true, true, true, true, true, true, true, true, true, true, true, true, true, true, true, true] rfl rfl (by kernel_rfl) (fun _ _ _ h => h) (Or.inl ⟨by rfl, ?_⟩) ?_ ?_
              rotate_left
              · intro w'
                go_simp
                with_reducible rfl
              rotate_left
              · simp only [Act.put, List.setIfInBounds_toArray, List.set_cons_zero, List.set_cons_succ, i64_w, i32_w]
                rfl
              refine done_ (by kernel_rfl) ?_
              have ZR := Aside0.mk (show Rel (addA A (ofK 5 sl pp sl) vx) (caddC C (5, sl, pp) vx) by exact JR.out.add JP.out.cells.once VD.out vx)
              clear hx0 hx1 hx2 hx3 hx4 hx5 hx6 hx7 hx8 hx9 hx10
              go_wp2_with fail
              go_roundg ko
              case rel => exact ⟨i + 1, _, _, by first | rfl | rw [wi], ⟨by have := HK.out; have := RI.out; omega⟩, ZI, ZP, ZJ, ZG, ZR⟩
              case measure => exact Nat.lt_succ_self _
            have u5 : (kd == 5) = false := beq_eq_false_iff_ne.mpr k5
            clear k5
            by_cases k7 : kd = 7
            · subst k7
              have hgb : (wr.alloc (.cells #[.int .i64 7, .int .i64 5, .int .i64 (wrap64 (1 + wrap64 ((IntKind.u64.wrap ps).tmod 7))), .int .i64 pp, .int .i64 id, .int .u64 ox, .int .i64 oy, .bool ost, .int .u64 vx, .int .i64 vy, .bool vst] 50)).cell? ⟨gb, (wrap64 (1 + wrap64 ((IntKind.u64.wrap ps).tmod 7))).toNat, none⟩ = some (.int .i64 (wrap64 (1 + wrap64 ((IntKind.u64.wrap ps).tmod 7)))) := by rw [blk_cell (blk_alloc JG.out _)]; exact bc_at hsl.1 hsl.2
              have XB := Aside0.mk (blk_drew (blk_new wr (.cells #[.int .i64 7, .int .i64 5, .int .i64 (wrap64 (1 + wrap64 ((IntKind.u64.wrap ps).tmod 7))), .int .i64 pp, .int .i64 (wrap64 (1 + wrap64 ((IntKind.u64.wrap ps).tmod 7))), .int .u64 ox, .int .i64 oy, .bool ost, .int .u64 vx, .int .i64 vy, .bool vst] 50)))
              have XI := Aside0.mk (JI.out.alloc (.cells #[.int .i64 7, .int .i64 5, .int .i64 (wrap64 (1 + wrap64 ((IntKind.u64.wrap ps).tmod 7))), .int .i64 pp, .int .i64 (wrap64 (1 + wrap64 ((IntKind.u64.wrap ps).tmod 7))), .int .u64 ox, .int .i64 oy, .bool ost, .int .u64 vx, .int .i64 vy, .bool vst] 50)).drew
              have XP := Aside0.mk (JP.out.alloc (.cells #[.int .i64 7, .int .i64 5, .int .i64 (wrap64 (1 + wrap64 ((IntKind.u64.wrap ps).tmod 7))), .int .i64 pp, .int .i64 (wrap64 (1 + wrap64 ((IntKind.u64.wrap ps).tmod 7))), .int .u64 ox, .int .i64 oy, .bool ost, .int .u64 vx, .int .i64 vy, .bool vst] 50)).drew
              have XJ := Aside0.mk (below_drew (below_alloc JB.out (.cells #[.int .i64 7, .int .i64 5, .int .i64 (wrap64 (1 + wrap64 ((IntKind.u64.wrap ps).tmod 7))), .int .i64 pp, .int .i64 (wrap64 (1 + wrap64 ((IntKind.u64.wrap ps).tmod 7))), .int .u64 ox, .int .i64 oy, .bool ost, .int .u64 vx, .int .i64 vy, .bool vst] 50)))
              have XG := Aside0.mk (blk_drew (blk_alloc JG.out (.cells #[.int .i64 7, .int .i64 5, .int .i64 (wrap64 (1 + wrap64 ((IntKind.u64.wrap ps).tmod 7))), .int .i64 pp, .int .i64 (wrap64 (1 + wrap64 ((IntKind.u64.wrap ps).tmod 7))), .int .u64 ox, .int .i64 oy, .bool ost, .int .u64 vx, .int .i64 vy, .bool vst] 50)))
              clear hsl
              go_wp2_with fail
              generalize wrap64 (1 + wrap64 ((IntKind.u64.wrap ps).tmod 7)) = sl at *
              have V1 := Aside0.mk (show peekR A 5 sl pp = getw C.m (5, sl, pp) from JR.out.peek VD.out)
              refine start_ (n := 12) (S := fun w' => w'.cell? ⟨wr.heap.size, 1, none⟩ = some (.int .i64 5) ∧ w'.cell? ⟨wr.heap.size, 2, none⟩ = some (.int .i64 sl) ∧ w'.cell? ⟨wr.heap.size, 3, none⟩ = some (.int .i64 pp)) (ds := [9]) #[false, false, false, false, false, false, false, false, false, false, false, false] (by kernel_rfl) rfl rfl ⟨(blk_cell XB.out 1).trans rfl, (blk_cell XB.out 2).trans rfl, (blk_cell XB.out 3).trans rfl⟩ (fun hHeld => ?_)
              refine pure_ (i := 0) (N := some 129) (v := ?_) (a' := ?_) #[true, false, false, false, false, false, false, false, false, false, false, false] rfl rfl (by kernel_rfl) (fun _ _ _ h => h) (Or.inl ⟨by rfl, ?_⟩) ?_ ?_
              rotate_left
              · intro w'
                go_simp
                with_reducible rfl
              rotate_left
              · simp only [Act.put, List.setIfInBounds_toArray, List.set_cons_zero, List.set_cons_succ, i64_w, i32_w]
                rfl
              refine pure_ (i := 1) (N := some 130) (v := ?_) (a' := ?_) #[true, true, false, false, false, false, false, false, false, false, false, false] rfl rfl (by kernel_rfl) (fun _ _ _ h => h) (Or.inl ⟨by rfl, ?_⟩) ?_ ?_
              rotate_left
              · intro w'
                go_simp
                with_reducible rfl
              rotate_left
              · simp only [Act.put, List.setIfInBounds_toArray, List.set_cons_zero, List.set_cons_succ, i64_w, i32_w]
                rfl
              refine pure_ (i := 2) (N := some 131) (v := ?_) (a' := ?_) #[true, true, true, false, false, false, false, false, false, false, false, false] rfl rfl (by kernel_rfl) (fun _ _ _ h => h) (Or.inl ⟨by rfl, ?_⟩) ?_ ?_
              rotate_left
              · intro w'
                go_simp
                with_reducible rfl
              rotate_left
              · simp only [Act.put, List.setIfInBounds_toArray, List.set_cons_zero, List.set_cons_succ, i64_w, i32_w]
                rfl
              refine pure_ (i := 5) (N := some 134) (v := ?_) (a' := ?_) #[true, true, true, false, false, true, false, false, false, false, false, false] rfl rfl (by kernel_rfl) (fun _ _ _ h => h) (Or.inl ⟨by rfl, ?_⟩) ?_ ?_
              rotate_left
              · intro w'
                go_simp
                with_reducible rfl
              rotate_left
              · simp only [Act.put, List.setIfInBounds_toArray, List.set_cons_zero, List.set_cons_succ, i64_w, i32_w]
                rfl
              refine pure_ (i := 6) (N := some 135) (v := ?_) (a' := ?_) #[true, true, true, false, false, true, true, false, false, false, false, false] rfl rfl (by kernel_rfl) (fun _ _ _ h => h) (Or.inl ⟨by rfl, ?_⟩) ?_ ?_
              rotate_left
              · intro w'
                go_simp
                with_reducible rfl
              rotate_left
              · simp only [Act.put, List.setIfInBounds_toArray, List.set_cons_zero, List.set_cons_succ, i64_w, i32_w]
                rfl
              refine pure_ (i := 7) (N := some 136) (v := ?_) (a' := ?_) #[true, true, true, false, false, true, true, true, false, false, false, false] rfl rfl (by kernel_rfl) (fun _ _ _ h => h) (Or.inl ⟨by rfl, ?_⟩) ?_ ?_
              rotate_left
              · intro w'
                go_simp
                with_reducible rfl
              rotate_left
              · simp only [Act.put, List.setIfInBounds_toArray, List.set_cons_zero, List.set_cons_succ, i64_w, i32_w]
                rfl
              refine take_ (i := 3) (N := some 132) (v := ?_) (a' := ?_) #[true, true, true, true, false, true, true, true, false, false, false, false] rfl rfl (by kernel_rfl) (fun _ _ _ h => h) (Or.inl ⟨by rfl, ?_⟩) hHeld ?_ ?_
              rotate_left
              · rintro w' ⟨s0, s1, s2⟩
                go_simp
                with_reducible rfl
              rotate_left
              · simp only [Act.put, List.setIfInBounds_toArray, List.set_cons_zero, List.set_cons_succ, i64_w, i32_w]
                rfl
              refine take_ (i := 8) (N := some 137) (v := ?_) (a' := ?_) #[true, true, true, true, false, true, true, true, true, false, false, false] rfl rfl (by kernel_rfl) (fun _ _ _ h => h) (Or.inl ⟨by rfl, ?_⟩) hHeld ?_ ?_
              rotate_left
              · rintro w' ⟨s0, s1, s2⟩
                go_simp
                with_reducible rfl
              rotate_left
              · simp only [Act.put, List.setIfInBounds_toArray, List.set_cons_zero, List.set_cons_succ, i64_w, i32_w]
                rfl
              refine one_ (i := 4) (N := some 133) #[true, true, true, true, true, true, true, true, true, false, false, false] rfl rfl (by kernel_rfl) (by decide) (fun K hK => ?_)
              refine goes_ Try.func21 (by kernel_rfl) rfl #[.pointer (some ⟨gi, 0, none⟩), Value.agg #[.int .i64 5, .int .i64 sl, .int .i64 pp]] (by rfl) rfl rfl (by simp only [List.map_toArray, List.map_cons, List.map_nil]; rfl) ?_
              with_reducible refine (ipeek_T gi g1 g2 gs g3 A 5 sl pp w _ XI.out).mono ?_
              rintro e w5 ⟨rfl, hb⟩
              refine ⟨_, rfl, ?_⟩
              rw [V1.out]
              have YI := Aside0.mk (XI.out.below hb)
              have YP := Aside0.mk (XP.out.below hb)
              have YJ := Aside0.mk (below_step XJ.out hb)
              have YB := Aside0.mk (blk_below XB.out hb)
              have YG := Aside0.mk (blk_below XG.out hb)
              clear hb
              refine hK.out _ _ ⟨(blk_cell YB.out 1).trans rfl, (blk_cell YB.out 2).trans rfl, (blk_cell YB.out 3).trans rfl⟩ (fun hHeld => ?_)
              clear hK K
              refine norm_ (a' := ?_) ?_ ?_
              rotate_left
              · show Act.put _ (some 133) _ = _
                simp only [Act.put, List.setIfInBounds_toArray, List.set_cons_zero, List.set_cons_succ, i64_w, i32_w]
                rfl
              refine last_ (i := 9) (N := some 138) #[true, true, true, true, true, true, true, true, true, true, false, false] rfl rfl (by kernel_rfl) (by decide) (fun K hK => ?_)
              refine goes_ Try.func35 (by kernel_rfl) rfl #[.pointer (some ⟨gp, 0, none⟩), Value.agg #[.int .i64 5, .int .i64 sl, .int .i64 pp]] (by rfl) rfl rfl (by simp only [List.map_toArray, List.map_cons, List.map_nil]; rfl) ?_
              with_reducible refine (ppeek_T gp gc gm C 5 sl pp w _ YP.out).mono ?_
              rintro e w6 ⟨rfl, hb⟩
              refine ⟨_, rfl, ?_⟩
              have ZP := Aside0.mk (YP.out.below hb)
              have ZI := Aside0.mk (YI.out.below hb)
              have ZJ := Aside0.mk (below_step YJ.out hb)
              have ZG := Aside0.mk (blk_below YG.out hb)
              clear hb
              refine hK.out _ _ ?_
              clear hK K
              refine norm_ (a' := ?_) ?_ ?_
              rotate_left
              · show Act.put _ (some 138) _ = _
                simp only [Act.put, List.setIfInBounds_toArray, List.set_cons_zero, List.set_cons_succ, i64_w, i32_w]
                rfl
              refine pure_ (i := 10) (N := some 139) (v := ?_) (a' := ?_) #[true, true, true, true, true, true, true, true, true, true, true, false] rfl rfl (by kernel_rfl) (fun _ _ _ h => h) (Or.inl ⟨by rfl, ?_⟩) ?_ ?_
              rotate_left
              · intro w'
                go_simp
                with_reducible rfl
              rotate_left
              · simp only [Act.put, List.setIfInBounds_toArray, List.set_cons_zero, List.set_cons_succ, i64_w, i32_w]
                rfl
              refine pure_ (i := 11) (N := some 9) (v := ?_) (a' := ?_) #[true, true, true, true, true, true, true, true, true, true, true, true] rfl rfl (by kernel_rfl) (fun _ _ _ h => h) (Or.inl ⟨by rfl, ?_⟩) ?_ ?_
              rotate_left
              · intro w'
                go_simp
                with_reducible rfl
              rotate_left
              · simp only [Act.put, List.setIfInBounds_toArray, List.set_cons_zero, List.set_cons_succ, i64_w, i32_w]
                rfl
              refine done_ (by kernel_rfl) ?_
              have ZR := JR
              clear hx0 hx1 hx2 hx3 hx4 hx5 hx6 hx7 hx8 hx9 hx10
              go_wp2_with fail
              go_roundg ko
              case rel => exact ⟨i + 1, _, _, by first | rfl | rw [wi], ⟨by have := HK.out; have := RI.out; omega⟩, ZI, ZP, ZJ, ZG, ZR⟩
              case measure => exact Nat.lt_succ_self _
            have u7 : (kd == 7) = false := beq_eq_false_iff_ne.mpr k7
            clear k7
            have hgb : (wr.alloc (.cells #[.int .i64 kd, .int .i64 5, .int .i64 (wrap64 (1 + wrap64 ((IntKind.u64.wrap ps).tmod 7))), .int .i64 pp, .int .i64 id, .int .u64 ox, .int .i64 oy, .bool ost, .int .u64 vx, .int .i64 vy, .bool vst] 50)).cell? ⟨gb, (wrap64 (1 + wrap64 ((IntKind.u64.wrap ps).tmod 7))).toNat, none⟩ = some (.int .i64 (wrap64 (1 + wrap64 ((IntKind.u64.wrap ps).tmod 7)))) := by rw [blk_cell (blk_alloc JG.out _)]; exact bc_at hsl.1 hsl.2
            have XB := Aside0.mk (blk_new wr (.cells #[.int .i64 kd, .int .i64 5, .int .i64 (wrap64 (1 + wrap64 ((IntKind.u64.wrap ps).tmod 7))), .int .i64 pp, .int .i64 (wrap64 (1 + wrap64 ((IntKind.u64.wrap ps).tmod 7))), .int .u64 ox, .int .i64 oy, .bool ost, .int .u64 vx, .int .i64 vy, .bool vst] 50))
            have XI := Aside0.mk (JI.out.alloc (.cells #[.int .i64 kd, .int .i64 5, .int .i64 (wrap64 (1 + wrap64 ((IntKind.u64.wrap ps).tmod 7))), .int .i64 pp, .int .i64 (wrap64 (1 + wrap64 ((IntKind.u64.wrap ps).tmod 7))), .int .u64 ox, .int .i64 oy, .bool ost, .int .u64 vx, .int .i64 vy, .bool vst] 50))
            have XP := Aside0.mk (JP.out.alloc (.cells #[.int .i64 kd, .int .i64 5, .int .i64 (wrap64 (1 + wrap64 ((IntKind.u64.wrap ps).tmod 7))), .int .i64 pp, .int .i64 (wrap64 (1 + wrap64 ((IntKind.u64.wrap ps).tmod 7))), .int .u64 ox, .int .i64 oy, .bool ost, .int .u64 vx, .int .i64 vy, .bool vst] 50))
            have XJ := Aside0.mk (below_alloc JB.out (.cells #[.int .i64 kd, .int .i64 5, .int .i64 (wrap64 (1 + wrap64 ((IntKind.u64.wrap ps).tmod 7))), .int .i64 pp, .int .i64 (wrap64 (1 + wrap64 ((IntKind.u64.wrap ps).tmod 7))), .int .u64 ox, .int .i64 oy, .bool ost, .int .u64 vx, .int .i64 vy, .bool vst] 50))
            have XG := Aside0.mk (blk_alloc JG.out (.cells #[.int .i64 kd, .int .i64 5, .int .i64 (wrap64 (1 + wrap64 ((IntKind.u64.wrap ps).tmod 7))), .int .i64 pp, .int .i64 (wrap64 (1 + wrap64 ((IntKind.u64.wrap ps).tmod 7))), .int .u64 ox, .int .i64 oy, .bool ost, .int .u64 vx, .int .i64 vy, .bool vst] 50))
            clear hsl
            go_wp2_with fail
            generalize wrap64 (1 + wrap64 ((IntKind.u64.wrap ps).tmod 7)) = sl at *
            have ZI := XI
            have ZP := XP
            have ZJ := XJ
            have ZG := XG
            have ZR := JR
            go_roundg ko
            case rel => exact ⟨i + 1, _, _, by first | rfl | rw [wi], ⟨by have := HK.out; have := RI.out; omega⟩, ZI, ZP, ZJ, ZG, ZR⟩
            case measure => exact Nat.lt_succ_self _
          · have t3 : (pk == 5) = false := beq_eq_false_iff_ne.mpr hq
            have VD := Aside0.mk (show Valid pk ps from fun h => absurd h hq)
            have OE := Aside0.mk (show ofK pk ps pp id = ofK pk ps pp ps by rw [ofK_no hq, ofK_no hq])
            clear hq
            by_cases k1 : kd = 1
            · subst k1
              have XB := Aside0.mk (blk_drew (blk_new wr (.cells #[.int .i64 1, .int .i64 pk, .int .i64 ps, .int .i64 pp, .int .i64 id, .int .u64 ox, .int .i64 oy, .bool ost, .int .u64 vx, .int .i64 vy, .bool vst] 50)))
              have XI := Aside0.mk (JI.out.alloc (.cells #[.int .i64 1, .int .i64 pk, .int .i64 ps, .int .i64 pp, .int .i64 id, .int .u64 ox, .int .i64 oy, .bool ost, .int .u64 vx, .int .i64 vy, .bool vst] 50)).drew
              have XP := Aside0.mk (JP.out.alloc (.cells #[.int .i64 1, .int .i64 pk, .int .i64 ps, .int .i64 pp, .int .i64 id, .int .u64 ox, .int .i64 oy, .bool ost, .int .u64 vx, .int .i64 vy, .bool vst] 50)).drew
              have XJ := Aside0.mk (below_drew (below_alloc JB.out (.cells #[.int .i64 1, .int .i64 pk, .int .i64 ps, .int .i64 pp, .int .i64 id, .int .u64 ox, .int .i64 oy, .bool ost, .int .u64 vx, .int .i64 vy, .bool vst] 50)))
              have XG := Aside0.mk (blk_drew (blk_alloc JG.out (.cells #[.int .i64 1, .int .i64 pk, .int .i64 ps, .int .i64 pp, .int .i64 id, .int .u64 ox, .int .i64 oy, .bool ost, .int .u64 vx, .int .i64 vy, .bool vst] 50)))
              go_wp2_with fail
              have V1 := Aside0.mk (show (get A.words (ofK pk ps pp id)).getD 0 = getw C.m (pk, ps, pp) from (congrArg (fun k => (get A.words k).getD 0) OE.out).trans (JR.out.words _ _ _ VD.out))
              refine start_ (n := 12) (S := fun w' => w'.cell? ⟨wr.heap.size, 1, none⟩ = some (.int .i64 pk) ∧ w'.cell? ⟨wr.heap.size, 2, none⟩ = some (.int .i64 ps) ∧ w'.cell? ⟨wr.heap.size, 3, none⟩ = some (.int .i64 pp) ∧ w'.cell? ⟨wr.heap.size, 4, none⟩ = some (.int .i64 id)) (ds := [8]) #[false, false, false, false, false, false, false, false, false, false, false, false] (by kernel_rfl) rfl rfl ⟨(blk_cell XB.out 1).trans rfl, (blk_cell XB.out 2).trans rfl, (blk_cell XB.out 3).trans rfl, (blk_cell XB.out 4).trans rfl⟩ (fun hHeld => ?_)
              refine pure_ (i := 0) (N := some 66) (v := ?_) (a' := ?_) #[true, false, false, false, false, false, false, false, false, false, false, false] rfl rfl (by kernel_rfl) (fun _ _ _ h => h) (Or.inl ⟨by rfl, ?_⟩) ?_ ?_
              rotate_left
              · intro w'
                go_simp
                with_reducible rfl
              rotate_left
              · simp only [Act.put, List.setIfInBounds_toArray, List.set_cons_zero, List.set_cons_succ, i64_w, i32_w]
                rfl
              refine pure_ (i := 1) (N := some 67) (v := ?_) (a' := ?_) #[true, true, false, false, false, false, false, false, false, false, false, false] rfl rfl (by kernel_rfl) (fun _ _ _ h => h) (Or.inl ⟨by rfl, ?_⟩) ?_ ?_
              rotate_left
              · intro w'
                go_simp
                with_reducible rfl
              rotate_left
              · simp only [Act.put, List.setIfInBounds_toArray, List.set_cons_zero, List.set_cons_succ, i64_w, i32_w]
                rfl
              refine pure_ (i := 5) (N := some 71) (v := ?_) (a' := ?_) #[true, true, false, false, false, true, false, false, false, false, false, false] rfl rfl (by kernel_rfl) (fun _ _ _ h => h) (Or.inl ⟨by rfl, ?_⟩) ?_ ?_
              rotate_left
              · intro w'
                go_simp
                with_reducible rfl
              rotate_left
              · simp only [Act.put, List.setIfInBounds_toArray, List.set_cons_zero, List.set_cons_succ, i64_w, i32_w]
                rfl
              refine pure_ (i := 6) (N := some 72) (v := ?_) (a' := ?_) #[true, true, false, false, false, true, true, false, false, false, false, false] rfl rfl (by kernel_rfl) (fun _ _ _ h => h) (Or.inl ⟨by rfl, ?_⟩) ?_ ?_
              rotate_left
              · intro w'
                go_simp
                with_reducible rfl
              rotate_left
              · simp only [Act.put, List.setIfInBounds_toArray, List.set_cons_zero, List.set_cons_succ, i64_w, i32_w]
                rfl
              refine take_ (i := 2) (N := some 68) (v := ?_) (a' := ?_) #[true, true, true, false, false, true, true, false, false, false, false, false] rfl rfl (by kernel_rfl) (fun _ _ _ h => h) (Or.inl ⟨by rfl, ?_⟩) hHeld ?_ ?_
              rotate_left
              · rintro w' ⟨s0, s1, s2, s3⟩
                go_simp
                with_reducible rfl
              rotate_left
              · simp only [Act.put, List.setIfInBounds_toArray, List.set_cons_zero, List.set_cons_succ, i64_w, i32_w]
                rfl
              refine take_ (i := 7) (N := some 73) (v := ?_) (a' := ?_) #[true, true, true, false, false, true, true, true, false, false, false, false] rfl rfl (by kernel_rfl) (fun _ _ _ h => h) (Or.inl ⟨by rfl, ?_⟩) hHeld ?_ ?_
              rotate_left
              · rintro w' ⟨s0, s1, s2, s3⟩
                go_simp
                with_reducible rfl
              rotate_left
              · simp only [Act.put, List.setIfInBounds_toArray, List.set_cons_zero, List.set_cons_succ, i64_w, i32_w]
                rfl
              refine one_ (i := 3) (N := some 69) #[true, true, true, true, false, true, true, true, false, false, false, false] rfl rfl (by kernel_rfl) (by decide) (fun K hK => ?_)
              refine goes_ Try.func17 (by kernel_rfl) rfl #[.pointer (some ⟨gi, 0, none⟩), Value.agg #[.int .i64 pk, .int .i64 ps, .int .i64 pp, .int .i64 id]] (by rfl) rfl rfl (by simp only [List.map_toArray, List.map_cons, List.map_nil]; rfl) ?_
              with_reducible refine (iload_T gi g1 g2 gs g3 A pk ps pp id w _ XI.out XJ.out).mono ?_
              rintro e w5 ⟨rfl, h1_, h2_, h3_⟩
              refine ⟨_, rfl, ?_⟩
              rw [V1.out]
              have YI := Aside0.mk h1_
              have YP := Aside0.mk (both1 XI.out XP.out GN.out h3_)
              have YJ := Aside0.mk h2_
              have YB := Aside0.mk (XI.out.stays h3_ XB.out (by decide) (by decide) (by decide))
              have YG := Aside0.mk (XI.out.stays h3_ XG.out (by decide) (by decide) (by decide))
              clear h1_ h2_ h3_
              refine hK.out _ _ ⟨(blk_cell YB.out 1).trans rfl, (blk_cell YB.out 2).trans rfl, (blk_cell YB.out 3).trans rfl, (blk_cell YB.out 4).trans rfl⟩ (fun hHeld => ?_)
              clear hK K
              refine norm_ (a' := ?_) ?_ ?_
              rotate_left
              · show Act.put _ (some 69) _ = _
                simp only [Act.put, List.setIfInBounds_toArray, List.set_cons_zero, List.set_cons_succ, i64_w, i32_w]
                rfl
              refine pure_ (i := 4) (N := some 70) (v := ?_) (a' := ?_) #[true, true, true, true, true, true, true, true, false, false, false, false] rfl rfl (by kernel_rfl) (fun _ _ _ h => h) (Or.inl ⟨by rfl, ?_⟩) ?_ ?_
              rotate_left
              · intro w'
                go_simp
                with_reducible rfl
              rotate_left
              · simp only [Act.put, List.setIfInBounds_toArray, List.set_cons_zero, List.set_cons_succ, i64_w, i32_w]
                rfl
              refine last_ (i := 8) (N := some 74) #[true, true, true, true, true, true, true, true, true, false, false, false] rfl rfl (by kernel_rfl) (by decide) (fun K hK => ?_)
              refine goes_ Try.func31 (by kernel_rfl) rfl #[.pointer (some ⟨gp, 0, none⟩), Value.agg #[.int .i64 pk, .int .i64 ps, .int .i64 pp, .int .i64 id]] (by rfl) rfl rfl (by simp only [List.map_toArray, List.map_cons, List.map_nil]; rfl) ?_
              with_reducible refine (pload_T gp gc gm C pk ps pp id w _ YP.out YJ.out).mono ?_
              rintro e w6 ⟨rfl, h1_, h2_, h3_⟩
              refine ⟨_, rfl, ?_⟩
              have ZP := Aside0.mk h1_
              have ZI := Aside0.mk (both2 YI.out YP.out GN.out h3_)
              have ZJ := Aside0.mk h2_
              have ZG := Aside0.mk (YP.out.cells.stays h3_ YG.out (by decide))
              clear h1_ h2_ h3_
              refine hK.out _ _ ?_
              clear hK K
              refine norm_ (a' := ?_) ?_ ?_
              rotate_left
              · show Act.put _ (some 74) _ = _
                simp only [Act.put, List.setIfInBounds_toArray, List.set_cons_zero, List.set_cons_succ, i64_w, i32_w]
                rfl
              refine pure_ (i := 9) (N := some 75) (v := ?_) (a' := ?_) #[true, true, true, true, true, true, true, true, true, true, false, false] rfl rfl (by kernel_rfl) (fun _ _ _ h => h) (Or.inl ⟨by rfl, ?_⟩) ?_ ?_
              rotate_left
              · intro w'
                go_simp
                with_reducible rfl
              rotate_left
              · simp only [Act.put, List.setIfInBounds_toArray, List.set_cons_zero, List.set_cons_succ, i64_w, i32_w]
                rfl
              refine pure_ (i := 10) (N := some 76) (v := ?_) (a' := ?_) #[true, true, true, true, true, true, true, true, true, true, true, false] rfl rfl (by kernel_rfl) (fun _ _ _ h => h) (Or.inl ⟨by rfl, ?_⟩) ?_ ?_
              rotate_left
              · intro w'
                go_simp
                with_reducible rfl
              rotate_left
              · simp only [Act.put, List.setIfInBounds_toArray, List.set_cons_zero, List.set_cons_succ, i64_w, i32_w]
                rfl
              refine pure_ (i := 11) (N := some 9) (v := ?_) (a' := ?_) #[true, true, true, true, true, true, true, true, true, true, true, true] rfl rfl (by kernel_rfl) (fun _ _ _ h => h) (Or.inl ⟨by rfl, ?_⟩) ?_ ?_
              rotate_left
              · intro w'
                go_simp
                with_reducible rfl
              rotate_left
              · simp only [Act.put, List.setIfInBounds_toArray, List.set_cons_zero, List.set_cons_succ, i64_w, i32_w]
                rfl
              refine done_ (by kernel_rfl) ?_
              have ZR := Aside0.mk JR.out.load
              clear hx0 hx1 hx2 hx3 hx4 hx5 hx6 hx7 hx8 hx9 hx10
              go_wp2_with fail
              go_roundg ko
              case rel => exact ⟨i + 1, _, _, by first | rfl | rw [wi], ⟨by have := HK.out; have := RI.out; omega⟩, ZI, ZP, ZJ, ZG, ZR⟩
              case measure => exact Nat.lt_succ_self _
            have u1 : (kd == 1) = false := beq_eq_false_iff_ne.mpr k1
            clear k1
            by_cases k2 : kd = 2
            · subst k2
              have XB := Aside0.mk (blk_new wr (.cells #[.int .i64 2, .int .i64 pk, .int .i64 ps, .int .i64 pp, .int .i64 id, .int .u64 ox, .int .i64 oy, .bool ost, .int .u64 vx, .int .i64 vy, .bool vst] 50))
              have XI := Aside0.mk (JI.out.alloc (.cells #[.int .i64 2, .int .i64 pk, .int .i64 ps, .int .i64 pp, .int .i64 id, .int .u64 ox, .int .i64 oy, .bool ost, .int .u64 vx, .int .i64 vy, .bool vst] 50))
              have XP := Aside0.mk (JP.out.alloc (.cells #[.int .i64 2, .int .i64 pk, .int .i64 ps, .int .i64 pp, .int .i64 id, .int .u64 ox, .int .i64 oy, .bool ost, .int .u64 vx, .int .i64 vy, .bool vst] 50))
              have XJ := Aside0.mk (below_alloc JB.out (.cells #[.int .i64 2, .int .i64 pk, .int .i64 ps, .int .i64 pp, .int .i64 id, .int .u64 ox, .int .i64 oy, .bool ost, .int .u64 vx, .int .i64 vy, .bool vst] 50))
              have XG := Aside0.mk (blk_alloc JG.out (.cells #[.int .i64 2, .int .i64 pk, .int .i64 ps, .int .i64 pp, .int .i64 id, .int .u64 ox, .int .i64 oy, .bool ost, .int .u64 vx, .int .i64 vy, .bool vst] 50))
              have b1 : (wr.alloc (.cells #[.int .i64 2, .int .i64 pk, .int .i64 ps, .int .i64 pp, .int .i64 id, .int .u64 ox, .int .i64 oy, .bool ost, .int .u64 vx, .int .i64 vy, .bool vst] 50)).cell? ⟨wr.heap.size, 1, none⟩ = some (.int .i64 pk) := (blk_cell XB.out 1).trans rfl
              have b2 : (wr.alloc (.cells #[.int .i64 2, .int .i64 pk, .int .i64 ps, .int .i64 pp, .int .i64 id, .int .u64 ox, .int .i64 oy, .bool ost, .int .u64 vx, .int .i64 vy, .bool vst] 50)).cell? ⟨wr.heap.size, 2, none⟩ = some (.int .i64 ps) := (blk_cell XB.out 2).trans rfl
              have b3 : (wr.alloc (.cells #[.int .i64 2, .int .i64 pk, .int .i64 ps, .int .i64 pp, .int .i64 id, .int .u64 ox, .int .i64 oy, .bool ost, .int .u64 vx, .int .i64 vy, .bool vst] 50)).cell? ⟨wr.heap.size, 3, none⟩ = some (.int .i64 pp) := (blk_cell XB.out 3).trans rfl
              have b4 : (wr.alloc (.cells #[.int .i64 2, .int .i64 pk, .int .i64 ps, .int .i64 pp, .int .i64 id, .int .u64 ox, .int .i64 oy, .bool ost, .int .u64 vx, .int .i64 vy, .bool vst] 50)).cell? ⟨wr.heap.size, 4, none⟩ = some (.int .i64 id) := (blk_cell XB.out 4).trans rfl
              have b8 : (wr.alloc (.cells #[.int .i64 2, .int .i64 pk, .int .i64 ps, .int .i64 pp, .int .i64 id, .int .u64 ox, .int .i64 oy, .bool ost, .int .u64 vx, .int .i64 vy, .bool vst] 50)).cell? ⟨wr.heap.size, 8, none⟩ = some (.int .u64 vx) := (blk_cell XB.out 8).trans rfl
              have b9 : (wr.alloc (.cells #[.int .i64 2, .int .i64 pk, .int .i64 ps, .int .i64 pp, .int .i64 id, .int .u64 ox, .int .i64 oy, .bool ost, .int .u64 vx, .int .i64 vy, .bool vst] 50)).cell? ⟨wr.heap.size, 9, none⟩ = some (.int .i64 vy) := (blk_cell XB.out 9).trans rfl
              have b10 : (wr.alloc (.cells #[.int .i64 2, .int .i64 pk, .int .i64 ps, .int .i64 pp, .int .i64 id, .int .u64 ox, .int .i64 oy, .bool ost, .int .u64 vx, .int .i64 vy, .bool vst] 50)).cell? ⟨wr.heap.size, 10, none⟩ = some (.bool vst) := (blk_cell XB.out 10).trans rfl
              go_wp2_with fail
              refine (istore_T gi g1 g2 gs g3 A pk ps pp id vx vy vst w _ XI.out XJ.out).mono ?_
              rintro e w5 ⟨rfl, h1_, h2_, h3_⟩
              have YI := Aside0.mk h1_
              have YP := Aside0.mk (both1 XI.out XP.out GN.out h3_)
              have YJ := Aside0.mk h2_
              have YB := Aside0.mk (XI.out.stays h3_ XB.out (by decide) (by decide) (by decide))
              have YG := Aside0.mk (XI.out.stays h3_ XG.out (by decide) (by decide) (by decide))
              clear h1_ h2_ h3_
              clear b1 b2 b3 b4 b8 b9 b10
              have b1 : w5.cell? ⟨wr.heap.size, 1, none⟩ = some (.int .i64 pk) := (blk_cell YB.out 1).trans rfl
              have b2 : w5.cell? ⟨wr.heap.size, 2, none⟩ = some (.int .i64 ps) := (blk_cell YB.out 2).trans rfl
              have b3 : w5.cell? ⟨wr.heap.size, 3, none⟩ = some (.int .i64 pp) := (blk_cell YB.out 3).trans rfl
              have b4 : w5.cell? ⟨wr.heap.size, 4, none⟩ = some (.int .i64 id) := (blk_cell YB.out 4).trans rfl
              have b8 : w5.cell? ⟨wr.heap.size, 8, none⟩ = some (.int .u64 vx) := (blk_cell YB.out 8).trans rfl
              have b9 : w5.cell? ⟨wr.heap.size, 9, none⟩ = some (.int .i64 vy) := (blk_cell YB.out 9).trans rfl
              have b10 : w5.cell? ⟨wr.heap.size, 10, none⟩ = some (.bool vst) := (blk_cell YB.out 10).trans rfl
              go_wp2_with fail
              refine (pstore_T gp gc gm C pk ps pp id vx vy vst w _ YP.out YJ.out).mono ?_
              rintro e w6 ⟨rfl, h1_, h2_, h3_⟩
              have ZP := Aside0.mk h1_
              have ZI := Aside0.mk (both2 YI.out YP.out GN.out h3_)
              have ZJ := Aside0.mk h2_
              have ZG := Aside0.mk (YP.out.cells.stays h3_ YG.out (by decide))
              clear h1_ h2_ h3_
              have ZR := Aside0.mk (show Rel (storeA A (ofK pk ps pp id) vx vy) (cstoreC C (pk, ps, pp) vx) by rw [OE.out]; exact JR.out.store JP.out.cells.once VD.out vx vy)
              clear hx0 hx1 hx2 hx3 hx4 hx5 hx6 hx7 hx8 hx9 hx10
              go_wp2_with fail
              go_roundg ko
              case rel => exact ⟨i + 1, _, _, by first | rfl | rw [wi], ⟨by have := HK.out; have := RI.out; omega⟩, ZI, ZP, ZJ, ZG, ZR⟩
              case measure => exact Nat.lt_succ_self _
            have u2 : (kd == 2) = false := beq_eq_false_iff_ne.mpr k2
            clear k2
            by_cases k3 : kd = 3
            · subst k3
              have XB := Aside0.mk (blk_drew (blk_new wr (.cells #[.int .i64 3, .int .i64 pk, .int .i64 ps, .int .i64 pp, .int .i64 id, .int .u64 ox, .int .i64 oy, .bool ost, .int .u64 vx, .int .i64 vy, .bool vst] 50)))
              have XI := Aside0.mk (JI.out.alloc (.cells #[.int .i64 3, .int .i64 pk, .int .i64 ps, .int .i64 pp, .int .i64 id, .int .u64 ox, .int .i64 oy, .bool ost, .int .u64 vx, .int .i64 vy, .bool vst] 50)).drew
              have XP := Aside0.mk (JP.out.alloc (.cells #[.int .i64 3, .int .i64 pk, .int .i64 ps, .int .i64 pp, .int .i64 id, .int .u64 ox, .int .i64 oy, .bool ost, .int .u64 vx, .int .i64 vy, .bool vst] 50)).drew
              have XJ := Aside0.mk (below_drew (below_alloc JB.out (.cells #[.int .i64 3, .int .i64 pk, .int .i64 ps, .int .i64 pp, .int .i64 id, .int .u64 ox, .int .i64 oy, .bool ost, .int .u64 vx, .int .i64 vy, .bool vst] 50)))
              have XG := Aside0.mk (blk_drew (blk_alloc JG.out (.cells #[.int .i64 3, .int .i64 pk, .int .i64 ps, .int .i64 pp, .int .i64 id, .int .u64 ox, .int .i64 oy, .bool ost, .int .u64 vx, .int .i64 vy, .bool vst] 50)))
              go_wp2_with fail
              have V1 := Aside0.mk (show swapR A (ofK pk ps pp id) ox = cswapR C (pk, ps, pp) ox by rw [OE.out]; exact JR.out.swapR VD.out ox)
              refine start_ (n := 18) (S := fun w' => w'.cell? ⟨wr.heap.size, 1, none⟩ = some (.int .i64 pk) ∧ w'.cell? ⟨wr.heap.size, 2, none⟩ = some (.int .i64 ps) ∧ w'.cell? ⟨wr.heap.size, 3, none⟩ = some (.int .i64 pp) ∧ w'.cell? ⟨wr.heap.size, 4, none⟩ = some (.int .i64 id) ∧ w'.cell? ⟨wr.heap.size, 5, none⟩ = some (.int .u64 ox) ∧ w'.cell? ⟨wr.heap.size, 6, none⟩ = some (.int .i64 oy) ∧ w'.cell? ⟨wr.heap.size, 7, none⟩ = some (.bool ost) ∧ w'.cell? ⟨wr.heap.size, 8, none⟩ = some (.int .u64 vx) ∧ w'.cell? ⟨wr.heap.size, 9, none⟩ = some (.int .i64 vy) ∧ w'.cell? ⟨wr.heap.size, 10, none⟩ = some (.bool vst)) (ds := [15]) #[false, false, false, false, false, false, false, false, false, false, false, false, false, false, false, false, false, false] (by kernel_rfl) rfl rfl ⟨(blk_cell XB.out 1).trans rfl, (blk_cell XB.out 2).trans rfl, (blk_cell XB.out 3).trans rfl, (blk_cell XB.out 4).trans rfl, (blk_cell XB.out 5).trans rfl, (blk_cell XB.out 6).trans rfl, (blk_cell XB.out 7).trans rfl, (blk_cell XB.out 8).trans rfl, (blk_cell XB.out 9).trans rfl, (blk_cell XB.out 10).trans rfl⟩ (fun hHeld => ?_)
              refine pure_ (i := 0) (N := some 93) (v := ?_) (a' := ?_) #[true, false, false, false, false, false, false, false, false, false, false, false, false, false, false, false, false, false] rfl rfl (by kernel_rfl) (fun _ _ _ h => h) (Or.inl ⟨by rfl, ?_⟩) ?_ ?_
              rotate_left
              · intro w'
                go_simp
                with_reducible rfl
              rotate_left
              · simp only [Act.put, List.setIfInBounds_toArray, List.set_cons_zero, List.set_cons_succ, i64_w, i32_w]
                rfl
              refine pure_ (i := 1) (N := some 94) (v := ?_) (a' := ?_) #[true, true, false, false, false, false, false, false, false, false, false, false, false, false, false, false, false, false] rfl rfl (by kernel_rfl) (fun _ _ _ h => h) (Or.inl ⟨by rfl, ?_⟩) ?_ ?_
              rotate_left
              · intro w'
                go_simp
                with_reducible rfl
              rotate_left
              · simp only [Act.put, List.setIfInBounds_toArray, List.set_cons_zero, List.set_cons_succ, i64_w, i32_w]
                rfl
              refine pure_ (i := 3) (N := some 96) (v := ?_) (a' := ?_) #[true, true, false, true, false, false, false, false, false, false, false, false, false, false, false, false, false, false] rfl rfl (by kernel_rfl) (fun _ _ _ h => h) (Or.inl ⟨by rfl, ?_⟩) ?_ ?_
              rotate_left
              · intro w'
                go_simp
                with_reducible rfl
              rotate_left
              · simp only [Act.put, List.setIfInBounds_toArray, List.set_cons_zero, List.set_cons_succ, i64_w, i32_w]
                rfl
              refine pure_ (i := 5) (N := some 98) (v := ?_) (a' := ?_) #[true, true, false, true, false, true, false, false, false, false, false, false, false, false, false, false, false, false] rfl rfl (by kernel_rfl) (fun _ _ _ h => h) (Or.inl ⟨by rfl, ?_⟩) ?_ ?_
              rotate_left
              · intro w'
                go_simp
                with_reducible rfl
              rotate_left
              · simp only [Act.put, List.setIfInBounds_toArray, List.set_cons_zero, List.set_cons_succ, i64_w, i32_w]
                rfl
              refine pure_ (i := 8) (N := some 101) (v := ?_) (a' := ?_) #[true, true, false, true, false, true, false, false, true, false, false, false, false, false, false, false, false, false] rfl rfl (by kernel_rfl) (fun _ _ _ h => h) (Or.inl ⟨by rfl, ?_⟩) ?_ ?_
              rotate_left
              · intro w'
                go_simp
                with_reducible rfl
              rotate_left
              · simp only [Act.put, List.setIfInBounds_toArray, List.set_cons_zero, List.set_cons_succ, i64_w, i32_w]
                rfl
              refine pure_ (i := 9) (N := some 102) (v := ?_) (a' := ?_) #[true, true, false, true, false, true, false, false, true, true, false, false, false, false, false, false, false, false] rfl rfl (by kernel_rfl) (fun _ _ _ h => h) (Or.inl ⟨by rfl, ?_⟩) ?_ ?_
              rotate_left
              · intro w'
                go_simp
                with_reducible rfl
              rotate_left
              · simp only [Act.put, List.setIfInBounds_toArray, List.set_cons_zero, List.set_cons_succ, i64_w, i32_w]
                rfl
              refine pure_ (i := 11) (N := some 104) (v := ?_) (a' := ?_) #[true, true, false, true, false, true, false, false, true, true, false, true, false, false, false, false, false, false] rfl rfl (by kernel_rfl) (fun _ _ _ h => h) (Or.inl ⟨by rfl, ?_⟩) ?_ ?_
              rotate_left
              · intro w'
                go_simp
                with_reducible rfl
              rotate_left
              · simp only [Act.put, List.setIfInBounds_toArray, List.set_cons_zero, List.set_cons_succ, i64_w, i32_w]
                rfl
              refine pure_ (i := 13) (N := some 106) (v := ?_) (a' := ?_) #[true, true, false, true, false, true, false, false, true, true, false, true, false, true, false, false, false, false] rfl rfl (by kernel_rfl) (fun _ _ _ h => h) (Or.inl ⟨by rfl, ?_⟩) ?_ ?_
              rotate_left
              · intro w'
                go_simp
                with_reducible rfl
              rotate_left
              · simp only [Act.put, List.setIfInBounds_toArray, List.set_cons_zero, List.set_cons_succ, i64_w, i32_w]
                rfl
              refine take_ (i := 2) (N := some 95) (v := ?_) (a' := ?_) #[true, true, true, true, false, true, false, false, true, true, false, true, false, true, false, false, false, false] rfl rfl (by kernel_rfl) (fun _ _ _ h => h) (Or.inl ⟨by rfl, ?_⟩) hHeld ?_ ?_
              rotate_left
              · rintro w' ⟨s0, s1, s2, s3, s4, s5, s6, s7, s8, s9⟩
                go_simp
                with_reducible rfl
              rotate_left
              · simp only [Act.put, List.setIfInBounds_toArray, List.set_cons_zero, List.set_cons_succ, i64_w, i32_w]
                rfl
              refine take_ (i := 4) (N := some 97) (v := ?_) (a' := ?_) #[true, true, true, true, true, true, false, false, true, true, false, true, false, true, false, false, false, false] rfl rfl (by kernel_rfl) (fun _ _ _ h => h) (Or.inl ⟨by rfl, ?_⟩) hHeld ?_ ?_
              rotate_left
              · rintro w' ⟨s0, s1, s2, s3, s4, s5, s6, s7, s8, s9⟩
                go_simp
                with_reducible rfl
              rotate_left
              · simp only [Act.put, List.setIfInBounds_toArray, List.set_cons_zero, List.set_cons_succ, i64_w, i32_w]
                rfl
              refine take_ (i := 6) (N := some 99) (v := ?_) (a' := ?_) #[true, true, true, true, true, true, true, false, true, true, false, true, false, true, false, false, false, false] rfl rfl (by kernel_rfl) (fun _ _ _ h => h) (Or.inl ⟨by rfl, ?_⟩) hHeld ?_ ?_
              rotate_left
              · rintro w' ⟨s0, s1, s2, s3, s4, s5, s6, s7, s8, s9⟩
                go_simp
                with_reducible rfl
              rotate_left
              · simp only [Act.put, List.setIfInBounds_toArray, List.set_cons_zero, List.set_cons_succ, i64_w, i32_w]
                rfl
              refine take_ (i := 10) (N := some 103) (v := ?_) (a' := ?_) #[true, true, true, true, true, true, true, false, true, true, true, true, false, true, false, false, false, false] rfl rfl (by kernel_rfl) (fun _ _ _ h => h) (Or.inl ⟨by rfl, ?_⟩) hHeld ?_ ?_
              rotate_left
              · rintro w' ⟨s0, s1, s2, s3, s4, s5, s6, s7, s8, s9⟩
                go_simp
                with_reducible rfl
              rotate_left
              · simp only [Act.put, List.setIfInBounds_toArray, List.set_cons_zero, List.set_cons_succ, i64_w, i32_w]
                rfl
              refine take_ (i := 12) (N := some 105) (v := ?_) (a' := ?_) #[true, true, true, true, true, true, true, false, true, true, true, true, true, true, false, false, false, false] rfl rfl (by kernel_rfl) (fun _ _ _ h => h) (Or.inl ⟨by rfl, ?_⟩) hHeld ?_ ?_
              rotate_left
              · rintro w' ⟨s0, s1, s2, s3, s4, s5, s6, s7, s8, s9⟩
                go_simp
                with_reducible rfl
              rotate_left
              · simp only [Act.put, List.setIfInBounds_toArray, List.set_cons_zero, List.set_cons_succ, i64_w, i32_w]
                rfl
              refine take_ (i := 14) (N := some 107) (v := ?_) (a' := ?_) #[true, true, true, true, true, true, true, false, true, true, true, true, true, true, true, false, false, false] rfl rfl (by kernel_rfl) (fun _ _ _ h => h) (Or.inl ⟨by rfl, ?_⟩) hHeld ?_ ?_
              rotate_left
              · rintro w' ⟨s0, s1, s2, s3, s4, s5, s6, s7, s8, s9⟩
                go_simp
                with_reducible rfl
              rotate_left
              · simp only [Act.put, List.setIfInBounds_toArray, List.set_cons_zero, List.set_cons_succ, i64_w, i32_w]
                rfl
              refine one_ (i := 7) (N := some 100) #[true, true, true, true, true, true, true, true, true, true, true, true, true, true, true, false, false, false] rfl rfl (by kernel_rfl) (by decide) (fun K hK => ?_)
              refine goes_ Try.func18 (by kernel_rfl) rfl #[.pointer (some ⟨gi, 0, none⟩), Value.agg #[.int .i64 pk, .int .i64 ps, .int .i64 pp, .int .i64 id], Value.agg #[.int .u64 ox, .int .i64 oy, .bool ost], Value.agg #[.int .u64 vx, .int .i64 vy, .bool vst]] (by rfl) rfl rfl (by simp only [List.map_toArray, List.map_cons, List.map_nil]; rfl) ?_
              with_reducible refine (iswap_T gi g1 g2 gs g3 A pk ps pp id ox oy vx vy ost vst w _ XI.out XJ.out).mono ?_
              rintro e w5 ⟨rfl, h1_, h2_, h3_⟩
              refine ⟨_, rfl, ?_⟩
              rw [V1.out]
              have YI := Aside0.mk h1_
              have YP := Aside0.mk (both1 XI.out XP.out GN.out h3_)
              have YJ := Aside0.mk h2_
              have YB := Aside0.mk (XI.out.stays h3_ XB.out (by decide) (by decide) (by decide))
              have YG := Aside0.mk (XI.out.stays h3_ XG.out (by decide) (by decide) (by decide))
              clear h1_ h2_ h3_
              refine hK.out _ _ ⟨(blk_cell YB.out 1).trans rfl, (blk_cell YB.out 2).trans rfl, (blk_cell YB.out 3).trans rfl, (blk_cell YB.out 4).trans rfl, (blk_cell YB.out 5).trans rfl, (blk_cell YB.out 6).trans rfl, (blk_cell YB.out 7).trans rfl, (blk_cell YB.out 8).trans rfl, (blk_cell YB.out 9).trans rfl, (blk_cell YB.out 10).trans rfl⟩ (fun hHeld => ?_)
              clear hK K
              refine norm_ (a' := ?_) ?_ ?_
              rotate_left
              · show Act.put _ (some 100) _ = _
                simp only [Act.put, List.setIfInBounds_toArray, List.set_cons_zero, List.set_cons_succ, i64_w, i32_w]
                rfl
              refine last_ (i := 15) (N := some 108) #[true, true, true, true, true, true, true, true, true, true, true, true, true, true, true, true, false, false] rfl rfl (by kernel_rfl) (by decide) (fun K hK => ?_)
              refine goes_ Try.func33 (by kernel_rfl) rfl #[.pointer (some ⟨gp, 0, none⟩), Value.agg #[.int .i64 pk, .int .i64 ps, .int .i64 pp, .int .i64 id], Value.agg #[.int .u64 ox, .int .i64 oy, .bool ost], Value.agg #[.int .u64 vx, .int .i64 vy, .bool vst]] (by rfl) rfl rfl (by simp only [List.map_toArray, List.map_cons, List.map_nil]; rfl) ?_
              with_reducible refine (pswap_T gp gc gm C pk ps pp id ox oy vx vy ost vst w _ YP.out YJ.out).mono ?_
              rintro e w6 ⟨rfl, h1_, h2_, h3_⟩
              refine ⟨_, rfl, ?_⟩
              have ZP := Aside0.mk h1_
              have ZI := Aside0.mk (both2 YI.out YP.out GN.out h3_)
              have ZJ := Aside0.mk h2_
              have ZG := Aside0.mk (YP.out.cells.stays h3_ YG.out (by decide))
              clear h1_ h2_ h3_
              refine hK.out _ _ ?_
              clear hK K
              refine norm_ (a' := ?_) ?_ ?_
              rotate_left
              · show Act.put _ (some 108) _ = _
                simp only [Act.put, List.setIfInBounds_toArray, List.set_cons_zero, List.set_cons_succ, i64_w, i32_w]
                rfl
              refine pure_ (i := 16) (N := some 109) (v := ?_) (a' := ?_) #[true, true, true, true, true, true, true, true, true, true, true, true, true, true, true, true, true, false] rfl rfl (by kernel_rfl) (fun _ _ _ h => h) (Or.inl ⟨by rfl, ?_⟩) ?_ ?_
              rotate_left
              · intro w'
                go_simp
                with_reducible rfl
              rotate_left
              · simp only [Act.put, List.setIfInBounds_toArray, List.set_cons_zero, List.set_cons_succ, i64_w, i32_w]
                rfl
              refine pure_ (i := 17) (N := some 9) (v := ?_) (a' := ?_) #[true, true, true, true, true, true, true, true, true, true, true, true, true, true, true, true, true, true] rfl rfl (by kernel_rfl) (fun _ _ _ h => h) (Or.inl ⟨by rfl, ?_⟩) ?_ ?_
              rotate_left
              · intro w'
                go_simp
                with_reducible rfl
              rotate_left
              · simp only [Act.put, List.setIfInBounds_toArray, List.set_cons_zero, List.set_cons_succ, i64_w, i32_w]
                rfl
              refine done_ (by kernel_rfl) ?_
              have ZR := Aside0.mk (show Rel (swapA A (ofK pk ps pp id) ox vx vy) (cswapC C (pk, ps, pp) ox vx) by rw [OE.out]; exact JR.out.swap JP.out.cells.once VD.out ox vx vy)
              clear hx0 hx1 hx2 hx3 hx4 hx5 hx6 hx7 hx8 hx9 hx10
              go_wp2_with fail
              go_roundg ko
              case rel => exact ⟨i + 1, _, _, by first | rfl | rw [wi], ⟨by have := HK.out; have := RI.out; omega⟩, ZI, ZP, ZJ, ZG, ZR⟩
              case measure => exact Nat.lt_succ_self _
            have u3 : (kd == 3) = false := beq_eq_false_iff_ne.mpr k3
            clear k3
            by_cases k5 : kd = 5
            · subst k5
              have XB := Aside0.mk (blk_drew (blk_new wr (.cells #[.int .i64 5, .int .i64 pk, .int .i64 ps, .int .i64 pp, .int .i64 id, .int .u64 ox, .int .i64 oy, .bool ost, .int .u64 vx, .int .i64 vy, .bool vst] 50)))
              have XI := Aside0.mk (JI.out.alloc (.cells #[.int .i64 5, .int .i64 pk, .int .i64 ps, .int .i64 pp, .int .i64 id, .int .u64 ox, .int .i64 oy, .bool ost, .int .u64 vx, .int .i64 vy, .bool vst] 50)).drew
              have XP := Aside0.mk (JP.out.alloc (.cells #[.int .i64 5, .int .i64 pk, .int .i64 ps, .int .i64 pp, .int .i64 id, .int .u64 ox, .int .i64 oy, .bool ost, .int .u64 vx, .int .i64 vy, .bool vst] 50)).drew
              have XJ := Aside0.mk (below_drew (below_alloc JB.out (.cells #[.int .i64 5, .int .i64 pk, .int .i64 ps, .int .i64 pp, .int .i64 id, .int .u64 ox, .int .i64 oy, .bool ost, .int .u64 vx, .int .i64 vy, .bool vst] 50)))
              have XG := Aside0.mk (blk_drew (blk_alloc JG.out (.cells #[.int .i64 5, .int .i64 pk, .int .i64 ps, .int .i64 pp, .int .i64 id, .int .u64 ox, .int .i64 oy, .bool ost, .int .u64 vx, .int .i64 vy, .bool vst] 50)))
              go_wp2_with fail
              have V1 := Aside0.mk (show (get A.words (ofK pk ps pp id)).getD 0 = getw C.m (pk, ps, pp) from (congrArg (fun k => (get A.words k).getD 0) OE.out).trans (JR.out.words _ _ _ VD.out))
              refine start_ (n := 16) (S := fun w' => w'.cell? ⟨wr.heap.size, 1, none⟩ = some (.int .i64 pk) ∧ w'.cell? ⟨wr.heap.size, 2, none⟩ = some (.int .i64 ps) ∧ w'.cell? ⟨wr.heap.size, 3, none⟩ = some (.int .i64 pp) ∧ w'.cell? ⟨wr.heap.size, 4, none⟩ = some (.int .i64 id) ∧ w'.cell? ⟨wr.heap.size, 8, none⟩ = some (.int .u64 vx)) (ds := [13]) #[false, false, false, false, false, false, false, false, false, false, false, false, false, false, false, false] (by kernel_rfl) rfl rfl ⟨(blk_cell XB.out 1).trans rfl, (blk_cell XB.out 2).trans rfl, (blk_cell XB.out 3).trans rfl, (blk_cell XB.out 4).trans rfl, (blk_cell XB.out 8).trans rfl⟩ (fun hHeld => ?_)
              refine pure_ (i := 0) (N := some 112) (v := ?_) (a' := ?_) #[true, false, false, false, false, false, false, false, false, false, false, false, false, false, false, false] rfl rfl (by kernel_rfl) (fun _ _ _ h => h) (Or.inl ⟨by rfl, ?_⟩) ?_ ?_
              rotate_left
              · intro w'
                go_simp
                with_reducible rfl
              rotate_left
              · simp only [Act.put, List.setIfInBounds_toArray, List.set_cons_zero, List.set_cons_succ, i64_w, i32_w]
                rfl
              refine pure_ (i := 1) (N := some 113) (v := ?_) (a' := ?_) #[true, true, false, false, false, false, false, false, false, false, false, false, false, false, false, false] rfl rfl (by kernel_rfl) (fun _ _ _ h => h) (Or.inl ⟨by rfl, ?_⟩) ?_ ?_
              rotate_left
              · intro w'
                go_simp
                with_reducible rfl
              rotate_left
              · simp only [Act.put, List.setIfInBounds_toArray, List.set_cons_zero, List.set_cons_succ, i64_w, i32_w]
                rfl
              refine pure_ (i := 3) (N := some 115) (v := ?_) (a' := ?_) #[true, true, false, true, false, false, false, false, false, false, false, false, false, false, false, false] rfl rfl (by kernel_rfl) (fun _ _ _ h => h) (Or.inl ⟨by rfl, ?_⟩) ?_ ?_
              rotate_left
              · intro w'
                go_simp
                with_reducible rfl
              rotate_left
              · simp only [Act.put, List.setIfInBounds_toArray, List.set_cons_zero, List.set_cons_succ, i64_w, i32_w]
                rfl
              refine pure_ (i := 4) (N := some 116) (v := ?_) (a' := ?_) #[true, true, false, true, true, false, false, false, false, false, false, false, false, false, false, false] rfl rfl (by kernel_rfl) (fun _ _ _ h => h) (Or.inl ⟨by rfl, ?_⟩) ?_ ?_
              rotate_left
              · intro w'
                go_simp
                with_reducible rfl
              rotate_left
              · simp only [Act.put, List.setIfInBounds_toArray, List.set_cons_zero, List.set_cons_succ, i64_w, i32_w]
                rfl
              refine pure_ (i := 7) (N := some 119) (v := ?_) (a' := ?_) #[true, true, false, true, true, false, false, true, false, false, false, false, false, false, false, false] rfl rfl (by kernel_rfl) (fun _ _ _ h => h) (Or.inl ⟨by rfl, ?_⟩) ?_ ?_
              rotate_left
              · intro w'
                go_simp
                with_reducible rfl
              rotate_left
              · simp only [Act.put, List.setIfInBounds_toArray, List.set_cons_zero, List.set_cons_succ, i64_w, i32_w]
                rfl
              refine pure_ (i := 8) (N := some 120) (v := ?_) (a' := ?_) #[true, true, false, true, true, false, false, true, true, false, false, false, false, false, false, false] rfl rfl (by kernel_rfl) (fun _ _ _ h => h) (Or.inl ⟨by rfl, ?_⟩) ?_ ?_
              rotate_left
              · intro w'
                go_simp
                with_reducible rfl
              rotate_left
              · simp only [Act.put, List.setIfInBounds_toArray, List.set_cons_zero, List.set_cons_succ, i64_w, i32_w]
                rfl
              refine pure_ (i := 10) (N := some 122) (v := ?_) (a' := ?_) #[true, true, false, true, true, false, false, true, true, false, true, false, false, false, false, false] rfl rfl (by kernel_rfl) (fun _ _ _ h => h) (Or.inl ⟨by rfl, ?_⟩) ?_ ?_
              rotate_left
              · intro w'
                go_simp
                with_reducible rfl
              rotate_left
              · simp only [Act.put, List.setIfInBounds_toArray, List.set_cons_zero, List.set_cons_succ, i64_w, i32_w]
                rfl
              refine pure_ (i := 11) (N := some 123) (v := ?_) (a' := ?_) #[true, true, false, true, true, false, false, true, true, false, true, true, false, false, false, false] rfl rfl (by kernel_rfl) (fun _ _ _ h => h) (Or.inl ⟨by rfl, ?_⟩) ?_ ?_
              rotate_left
              · intro w'
                go_simp
                with_reducible rfl
              rotate_left
              · simp only [Act.put, List.setIfInBounds_toArray, List.set_cons_zero, List.set_cons_succ, i64_w, i32_w]
                rfl
              refine take_ (i := 2) (N := some 114) (v := ?_) (a' := ?_) #[true, true, true, true, true, false, false, true, true, false, true, true, false, false, false, false] rfl rfl (by kernel_rfl) (fun _ _ _ h => h) (Or.inl ⟨by rfl, ?_⟩) hHeld ?_ ?_
              rotate_left
              · rintro w' ⟨s0, s1, s2, s3, s4⟩
                go_simp
                with_reducible rfl
              rotate_left
              · simp only [Act.put, List.setIfInBounds_toArray, List.set_cons_zero, List.set_cons_succ, i64_w, i32_w]
                rfl
              refine take_ (i := 5) (N := some 117) (v := ?_) (a' := ?_) #[true, true, true, true, true, true, false, true, true, false, true, true, false, false, false, false] rfl rfl (by kernel_rfl) (fun _ _ _ h => h) (Or.inl ⟨by rfl, ?_⟩) hHeld ?_ ?_
              rotate_left
              · rintro w' ⟨s0, s1, s2, s3, s4⟩
                go_simp
                with_reducible rfl
              rotate_left
              · simp only [Act.put, List.setIfInBounds_toArray, List.set_cons_zero, List.set_cons_succ, i64_w, i32_w]
                rfl
              refine take_ (i := 9) (N := some 121) (v := ?_) (a' := ?_) #[true, true, true, true, true, true, false, true, true, true, true, true, false, false, false, false] rfl rfl (by kernel_rfl) (fun _ _ _ h => h) (Or.inl ⟨by rfl, ?_⟩) hHeld ?_ ?_
              rotate_left
              · rintro w' ⟨s0, s1, s2, s3, s4⟩
                go_simp
                with_reducible rfl
              rotate_left
              · simp only [Act.put, List.setIfInBounds_toArray, List.set_cons_zero, List.set_cons_succ, i64_w, i32_w]
                rfl
              refine take_ (i := 12) (N := some 124) (v := ?_) (a' := ?_) #[true, true, true, true, true, true, false, true, true, true, true, true, true, false, false, false] rfl rfl (by kernel_rfl) (fun _ _ _ h => h) (Or.inl ⟨by rfl, ?_⟩) hHeld ?_ ?_
              rotate_left
              · rintro w' ⟨s0, s1, s2, s3, s4⟩
                go_simp
                with_reducible rfl
              rotate_left
              · simp only [Act.put, List.setIfInBounds_toArray, List.set_cons_zero, List.set_cons_succ, i64_w, i32_w]
                rfl
              refine one_ (i := 6) (N := some 118) #[true, true, true, true, true, true, true, true, true, true, true, true, true, false, false, false] rfl rfl (by kernel_rfl) (by decide) (fun K hK => ?_)
              refine goes_ Try.func19 (by kernel_rfl) rfl #[.pointer (some ⟨gi, 0, none⟩), Value.agg #[.int .i64 pk, .int .i64 ps, .int .i64 pp, .int .i64 id], .int .u64 vx] (by rfl) rfl rfl (by simp only [List.map_toArray, List.map_cons, List.map_nil]; rfl) ?_
              with_reducible refine (iadd_T gi g1 g2 gs g3 A pk ps pp id vx w _ XI.out XJ.out).mono ?_
              rintro e w5 ⟨rfl, h1_, h2_, h3_⟩
              refine ⟨_, rfl, ?_⟩
              rw [V1.out]
              have YI := Aside0.mk h1_
              have YP := Aside0.mk (both1 XI.out XP.out GN.out h3_)
              have YJ := Aside0.mk h2_
              have YB := Aside0.mk (XI.out.stays h3_ XB.out (by decide) (by decide) (by decide))
              have YG := Aside0.mk (XI.out.stays h3_ XG.out (by decide) (by decide) (by decide))
              clear h1_ h2_ h3_
              refine hK.out _ _ ⟨(blk_cell YB.out 1).trans rfl, (blk_cell YB.out 2).trans rfl, (blk_cell YB.out 3).trans rfl, (blk_cell YB.out 4).trans rfl, (blk_cell YB.out 8).trans rfl⟩ (fun hHeld => ?_)
              clear hK K
              refine norm_ (a' := ?_) ?_ ?_
              rotate_left
              · show Act.put _ (some 118) _ = _
                simp only [Act.put, List.setIfInBounds_toArray, List.set_cons_zero, List.set_cons_succ, i64_w, i32_w]
                rfl
              refine last_ (i := 13) (N := some 125) #[true, true, true, true, true, true, true, true, true, true, true, true, true, true, false, false] rfl rfl (by kernel_rfl) (by decide) (fun K hK => ?_)
              refine goes_ Try.func34 (by kernel_rfl) rfl #[.pointer (some ⟨gp, 0, none⟩), Value.agg #[.int .i64 pk, .int .i64 ps, .int .i64 pp, .int .i64 id], .int .u64 vx] (by rfl) rfl rfl (by simp only [List.map_toArray, List.map_cons, List.map_nil]; rfl) ?_
              with_reducible refine (padd_T gp gc gm C pk ps pp id vx w _ YP.out YJ.out).mono ?_
              rintro e w6 ⟨rfl, h1_, h2_, h3_⟩
              refine ⟨_, rfl, ?_⟩
              have ZP := Aside0.mk h1_
              have ZI := Aside0.mk (both2 YI.out YP.out GN.out h3_)
              have ZJ := Aside0.mk h2_
              have ZG := Aside0.mk (YP.out.cells.stays h3_ YG.out (by decide))
              clear h1_ h2_ h3_
              refine hK.out _ _ ?_
              clear hK K
              refine norm_ (a' := ?_) ?_ ?_
              rotate_left
              · show Act.put _ (some 125) _ = _
                simp only [Act.put, List.setIfInBounds_toArray, List.set_cons_zero, List.set_cons_succ, i64_w, i32_w]
                rfl
              refine pure_ (i := 14) (N := some 126) (v := ?_) (a' := ?_) #[true, true, true, true, true, true, true, true, true, true, true, true, true, true, true, false] rfl rfl (by kernel_rfl) (fun _ _ _ h => h) (Or.inl ⟨by rfl, ?_⟩) ?_ ?_
              rotate_left
              · intro w'
                go_simp
                with_reducible rfl
              rotate_left
              · simp only [Act.put, List.setIfInBounds_toArray, List.set_cons_zero, List.set_cons_succ, i64_w, i32_w]
                rfl
              refine pure_ (i := 15) (N := some 9) (v := ?_) (a' := ?_) #[true, true, true, true, true, true, true, true, true, true, true, true, true, true, true, true] rfl rfl (by kernel_rfl) (fun _ _ _ h => h) (Or.inl ⟨by rfl, ?_⟩) ?_ ?_
              rotate_left
              · intro w'
                go_simp
                with_reducible rfl
              rotate_left
              · simp only [Act.put, List.setIfInBounds_toArray, List.set_cons_zero, List.set_cons_succ, i64_w, i32_w]
                rfl
              refine done_ (by kernel_rfl) ?_
              have ZR := Aside0.mk (show Rel (addA A (ofK pk ps pp id) vx) (caddC C (pk, ps, pp) vx) by rw [OE.out]; exact JR.out.add JP.out.cells.once VD.out vx)
              clear hx0 hx1 hx2 hx3 hx4 hx5 hx6 hx7 hx8 hx9 hx10
              go_wp2_with fail
              go_roundg ko
              case rel => exact ⟨i + 1, _, _, by first | rfl | rw [wi], ⟨by have := HK.out; have := RI.out; omega⟩, ZI, ZP, ZJ, ZG, ZR⟩
              case measure => exact Nat.lt_succ_self _
            have u5 : (kd == 5) = false := beq_eq_false_iff_ne.mpr k5
            clear k5
            by_cases k7 : kd = 7
            · subst k7
              have XB := Aside0.mk (blk_drew (blk_new wr (.cells #[.int .i64 7, .int .i64 pk, .int .i64 ps, .int .i64 pp, .int .i64 id, .int .u64 ox, .int .i64 oy, .bool ost, .int .u64 vx, .int .i64 vy, .bool vst] 50)))
              have XI := Aside0.mk (JI.out.alloc (.cells #[.int .i64 7, .int .i64 pk, .int .i64 ps, .int .i64 pp, .int .i64 id, .int .u64 ox, .int .i64 oy, .bool ost, .int .u64 vx, .int .i64 vy, .bool vst] 50)).drew
              have XP := Aside0.mk (JP.out.alloc (.cells #[.int .i64 7, .int .i64 pk, .int .i64 ps, .int .i64 pp, .int .i64 id, .int .u64 ox, .int .i64 oy, .bool ost, .int .u64 vx, .int .i64 vy, .bool vst] 50)).drew
              have XJ := Aside0.mk (below_drew (below_alloc JB.out (.cells #[.int .i64 7, .int .i64 pk, .int .i64 ps, .int .i64 pp, .int .i64 id, .int .u64 ox, .int .i64 oy, .bool ost, .int .u64 vx, .int .i64 vy, .bool vst] 50)))
              have XG := Aside0.mk (blk_drew (blk_alloc JG.out (.cells #[.int .i64 7, .int .i64 pk, .int .i64 ps, .int .i64 pp, .int .i64 id, .int .u64 ox, .int .i64 oy, .bool ost, .int .u64 vx, .int .i64 vy, .bool vst] 50)))
              go_wp2_with fail
              have V1 := Aside0.mk (show peekR A pk ps pp = getw C.m (pk, ps, pp) from JR.out.peek VD.out)
              refine start_ (n := 12) (S := fun w' => w'.cell? ⟨wr.heap.size, 1, none⟩ = some (.int .i64 pk) ∧ w'.cell? ⟨wr.heap.size, 2, none⟩ = some (.int .i64 ps) ∧ w'.cell? ⟨wr.heap.size, 3, none⟩ = some (.int .i64 pp)) (ds := [9]) #[false, false, false, false, false, false, false, false, false, false, false, false] (by kernel_rfl) rfl rfl ⟨(blk_cell XB.out 1).trans rfl, (blk_cell XB.out 2).trans rfl, (blk_cell XB.out 3).trans rfl⟩ (fun hHeld => ?_)
              refine pure_ (i := 0) (N := some 129) (v := ?_) (a' := ?_) #[true, false, false, false, false, false, false, false, false, false, false, false] rfl rfl (by kernel_rfl) (fun _ _ _ h => h) (Or.inl ⟨by rfl, ?_⟩) ?_ ?_
              rotate_left
              · intro w'
                go_simp
                with_reducible rfl
              rotate_left
              · simp only [Act.put, List.setIfInBounds_toArray, List.set_cons_zero, List.set_cons_succ, i64_w, i32_w]
                rfl
              refine pure_ (i := 1) (N := some 130) (v := ?_) (a' := ?_) #[true, true, false, false, false, false, false, false, false, false, false, false] rfl rfl (by kernel_rfl) (fun _ _ _ h => h) (Or.inl ⟨by rfl, ?_⟩) ?_ ?_
              rotate_left
              · intro w'
                go_simp
                with_reducible rfl
              rotate_left
              · simp only [Act.put, List.setIfInBounds_toArray, List.set_cons_zero, List.set_cons_succ, i64_w, i32_w]
                rfl
              refine pure_ (i := 2) (N := some 131) (v := ?_) (a' := ?_) #[true, true, true, false, false, false, false, false, false, false, false, false] rfl rfl (by kernel_rfl) (fun _ _ _ h => h) (Or.inl ⟨by rfl, ?_⟩) ?_ ?_
              rotate_left
              · intro w'
                go_simp
                with_reducible rfl
              rotate_left
              · simp only [Act.put, List.setIfInBounds_toArray, List.set_cons_zero, List.set_cons_succ, i64_w, i32_w]
                rfl
              refine pure_ (i := 5) (N := some 134) (v := ?_) (a' := ?_) #[true, true, true, false, false, true, false, false, false, false, false, false] rfl rfl (by kernel_rfl) (fun _ _ _ h => h) (Or.inl ⟨by rfl, ?_⟩) ?_ ?_
              rotate_left
              · intro w'
                go_simp
                with_reducible rfl
              rotate_left
              · simp only [Act.put, List.setIfInBounds_toArray, List.set_cons_zero, List.set_cons_succ, i64_w, i32_w]
                rfl
              refine pure_ (i := 6) (N := some 135) (v := ?_) (a' := ?_) #[true, true, true, false, false, true, true, false, false, false, false, false] rfl rfl (by kernel_rfl) (fun _ _ _ h => h) (Or.inl ⟨by rfl, ?_⟩) ?_ ?_
              rotate_left
              · intro w'
                go_simp
                with_reducible rfl
              rotate_left
              · simp only [Act.put, List.setIfInBounds_toArray, List.set_cons_zero, List.set_cons_succ, i64_w, i32_w]
                rfl
              refine pure_ (i := 7) (N := some 136) (v := ?_) (a' := ?_) #[true, true, true, false, false, true, true, true, false, false, false, false] rfl rfl (by kernel_rfl) (fun _ _ _ h => h) (Or.inl ⟨by rfl, ?_⟩) ?_ ?_
              rotate_left
              · intro w'
                go_simp
                with_reducible rfl
              rotate_left
              · simp only [Act.put, List.setIfInBounds_toArray, List.set_cons_zero, List.set_cons_succ, i64_w, i32_w]
                rfl
              refine take_ (i := 3) (N := some 132) (v := ?_) (a' := ?_) #[true, true, true, true, false, true, true, true, false, false, false, false] rfl rfl (by kernel_rfl) (fun _ _ _ h => h) (Or.inl ⟨by rfl, ?_⟩) hHeld ?_ ?_
              rotate_left
              · rintro w' ⟨s0, s1, s2⟩
                go_simp
                with_reducible rfl
              rotate_left
              · simp only [Act.put, List.setIfInBounds_toArray, List.set_cons_zero, List.set_cons_succ, i64_w, i32_w]
                rfl
              refine take_ (i := 8) (N := some 137) (v := ?_) (a' := ?_) #[true, true, true, true, false, true, true, true, true, false, false, false] rfl rfl (by kernel_rfl) (fun _ _ _ h => h) (Or.inl ⟨by rfl, ?_⟩) hHeld ?_ ?_
              rotate_left
              · rintro w' ⟨s0, s1, s2⟩
                go_simp
                with_reducible rfl
              rotate_left
              · simp only [Act.put, List.setIfInBounds_toArray, List.set_cons_zero, List.set_cons_succ, i64_w, i32_w]
                rfl
              refine one_ (i := 4) (N := some 133) #[true, true, true, true, true, true, true, true, true, false, false, false] rfl rfl (by kernel_rfl) (by decide) (fun K hK => ?_)
              refine goes_ Try.func21 (by kernel_rfl) rfl #[.pointer (some ⟨gi, 0, none⟩), Value.agg #[.int .i64 pk, .int .i64 ps, .int .i64 pp]] (by rfl) rfl rfl (by simp only [List.map_toArray, List.map_cons, List.map_nil]; rfl) ?_
              with_reducible refine (ipeek_T gi g1 g2 gs g3 A pk ps pp w _ XI.out).mono ?_
              rintro e w5 ⟨rfl, hb⟩
              refine ⟨_, rfl, ?_⟩
              rw [V1.out]
              have YI := Aside0.mk (XI.out.below hb)
              have YP := Aside0.mk (XP.out.below hb)
              have YJ := Aside0.mk (below_step XJ.out hb)
              have YB := Aside0.mk (blk_below XB.out hb)
              have YG := Aside0.mk (blk_below XG.out hb)
              clear hb
              refine hK.out _ _ ⟨(blk_cell YB.out 1).trans rfl, (blk_cell YB.out 2).trans rfl, (blk_cell YB.out 3).trans rfl⟩ (fun hHeld => ?_)
              clear hK K
              refine norm_ (a' := ?_) ?_ ?_
              rotate_left
              · show Act.put _ (some 133) _ = _
                simp only [Act.put, List.setIfInBounds_toArray, List.set_cons_zero, List.set_cons_succ, i64_w, i32_w]
                rfl
              refine last_ (i := 9) (N := some 138) #[true, true, true, true, true, true, true, true, true, true, false, false] rfl rfl (by kernel_rfl) (by decide) (fun K hK => ?_)
              refine goes_ Try.func35 (by kernel_rfl) rfl #[.pointer (some ⟨gp, 0, none⟩), Value.agg #[.int .i64 pk, .int .i64 ps, .int .i64 pp]] (by rfl) rfl rfl (by simp only [List.map_toArray, List.map_cons, List.map_nil]; rfl) ?_
              with_reducible refine (ppeek_T gp gc gm C pk ps pp w _ YP.out).mono ?_
              rintro e w6 ⟨rfl, hb⟩
              refine ⟨_, rfl, ?_⟩
              have ZP := Aside0.mk (YP.out.below hb)
              have ZI := Aside0.mk (YI.out.below hb)
              have ZJ := Aside0.mk (below_step YJ.out hb)
              have ZG := Aside0.mk (blk_below YG.out hb)
              clear hb
              refine hK.out _ _ ?_
              clear hK K
              refine norm_ (a' := ?_) ?_ ?_
              rotate_left
              · show Act.put _ (some 138) _ = _
                simp only [Act.put, List.setIfInBounds_toArray, List.set_cons_zero, List.set_cons_succ, i64_w, i32_w]
                rfl
              refine pure_ (i := 10) (N := some 139) (v := ?_) (a' := ?_) #[true, true, true, true, true, true, true, true, true, true, true, false] rfl rfl (by kernel_rfl) (fun _ _ _ h => h) (Or.inl ⟨by rfl, ?_⟩) ?_ ?_
              rotate_left
              · intro w'
                go_simp
                with_reducible rfl
              rotate_left
              · simp only [Act.put, List.setIfInBounds_toArray, List.set_cons_zero, List.set_cons_succ, i64_w, i32_w]
                rfl
              refine pure_ (i := 11) (N := some 9) (v := ?_) (a' := ?_) #[true, true, true, true, true, true, true, true, true, true, true, true] rfl rfl (by kernel_rfl) (fun _ _ _ h => h) (Or.inl ⟨by rfl, ?_⟩) ?_ ?_
              rotate_left
              · intro w'
                go_simp
                with_reducible rfl
              rotate_left
              · simp only [Act.put, List.setIfInBounds_toArray, List.set_cons_zero, List.set_cons_succ, i64_w, i32_w]
                rfl
              refine done_ (by kernel_rfl) ?_
              have ZR := JR
              clear hx0 hx1 hx2 hx3 hx4 hx5 hx6 hx7 hx8 hx9 hx10
              go_wp2_with fail
              go_roundg ko
              case rel => exact ⟨i + 1, _, _, by first | rfl | rw [wi], ⟨by have := HK.out; have := RI.out; omega⟩, ZI, ZP, ZJ, ZG, ZR⟩
              case measure => exact Nat.lt_succ_self _
            have u7 : (kd == 7) = false := beq_eq_false_iff_ne.mpr k7
            clear k7
            have XB := Aside0.mk (blk_new wr (.cells #[.int .i64 kd, .int .i64 pk, .int .i64 ps, .int .i64 pp, .int .i64 id, .int .u64 ox, .int .i64 oy, .bool ost, .int .u64 vx, .int .i64 vy, .bool vst] 50))
            have XI := Aside0.mk (JI.out.alloc (.cells #[.int .i64 kd, .int .i64 pk, .int .i64 ps, .int .i64 pp, .int .i64 id, .int .u64 ox, .int .i64 oy, .bool ost, .int .u64 vx, .int .i64 vy, .bool vst] 50))
            have XP := Aside0.mk (JP.out.alloc (.cells #[.int .i64 kd, .int .i64 pk, .int .i64 ps, .int .i64 pp, .int .i64 id, .int .u64 ox, .int .i64 oy, .bool ost, .int .u64 vx, .int .i64 vy, .bool vst] 50))
            have XJ := Aside0.mk (below_alloc JB.out (.cells #[.int .i64 kd, .int .i64 pk, .int .i64 ps, .int .i64 pp, .int .i64 id, .int .u64 ox, .int .i64 oy, .bool ost, .int .u64 vx, .int .i64 vy, .bool vst] 50))
            have XG := Aside0.mk (blk_alloc JG.out (.cells #[.int .i64 kd, .int .i64 pk, .int .i64 ps, .int .i64 pp, .int .i64 id, .int .u64 ox, .int .i64 oy, .bool ost, .int .u64 vx, .int .i64 vy, .bool vst] 50))
            go_wp2_with fail
            have ZI := XI
            have ZP := XP
            have ZJ := XJ
            have ZG := XG
            have ZR := JR
            go_roundg ko
            case rel => exact ⟨i + 1, _, _, by first | rfl | rw [wi], ⟨by have := HK.out; have := RI.out; omega⟩, ZI, ZP, ZJ, ZG, ZR⟩
            case measure => exact Nat.lt_succ_self _
        · have tt : decide (i < (xs.length : Int)) = false ∨ (decide (i < (xs.length : Int)) = true ∧ decide (i < 150) = false) := by
            by_cases h : i < (xs.length : Int)
            · exact .inr ⟨decide_eq_true h, decide_eq_false (fun h2 => hi ⟨h, h2⟩)⟩
            · exact .inl (decide_eq_false h)
          clear hi
          rcases tt with t1 | ⟨t1, t2⟩
          all_goals
            go_wp2_with fail
            refine (icount_T gi g1 g2 gs g3 A w wr JI.out).mono ?_
            rintro e w8 ⟨rfl, hb⟩
            rw [JR.out.c1, JR.out.c2, JR.out.c3, JR.out.c4, JR.out.c5]
            have P8 := Aside0.mk (JP.out.below hb)
            have B8 := Aside0.mk (below_step JB.out hb)
            clear hb
            go_wp2_with fail
            refine (pcount_T gp gc gm C w w8 P8.out).mono ?_
            rintro e w9 ⟨rfl, hb⟩
            have B9 := Aside0.mk (below_step B8.out hb)
            clear hb
            go_wp2_with fail
            go_ret
            exact ⟨by simp, B9.out⟩
def revenantlaw09_IdealPlain.f (xs : List S50) : Option Bool := some true
theorem revenantlaw09_IdealPlain.calls (A0_ : Option Addr) (c0 : Nat) (xs : List S50) (r : Bool) (w : World) (hr0 : Kd.C k50 w A0_ xs.length xs) (hc0 : xs.length ≤ c0) (h : revenantlaw09_IdealPlain.f xs = some r) :
    Calls Try.prog 6 #[.slice A0_ xs.length c0] w fun e w' => e = .returned (.bool r) ∧ Below w.heap.size w w' := by
  obtain rfl := Option.some.inj h
  exact plain09T A0_ c0 xs w hr0 hc0
theorem RIdealPlain (xs : List S50) {P : Prop} (_ : P) : revenantlaw09_IdealPlain.f xs = some true := rfl
end Go.Proofs.Ytlpnggapndokeaa.PIdealKeeps

