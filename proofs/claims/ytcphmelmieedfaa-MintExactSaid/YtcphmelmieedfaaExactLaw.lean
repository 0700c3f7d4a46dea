/-
Of every seed and row of draws all is the same; of nothing there is nothing.
-/
import Derived.Test.YtcphmelmieedfaaExactDoes
namespace Go.Proofs.Ytcphmelmieedfaa.PMintExact
open Go Go.RowKit Go.Proofs.YtcphmelmieedfaaW.PrintWords Go.Proofs.YtcphmelmieedfaaW.PrintLast Go.Proofs.YtcphmelmieedfaaW.PrintMore Go.Proofs.Ytcphmelmieedfaa.U
attribute [local go_sem] max2_int min2_int max_two min_two max_three min_three max_four min_four
set_option linter.unusedVariables false
set_option linter.unusedSimpArgs false
set_option maxHeartbeats 8000000 in
set_option maxRecDepth 100000 in
theorem next_nil (w : World) : Calls Try.prog 14 #[.pointer none] w fun e w' => e = .returned (.int .u64 0) ∧ w = w' := by
  go_enter Try.func14, Try.ntmps14
  go_wp2_with fail
  go_ret
  exact ⟨rfl, rfl⟩
set_option maxHeartbeats 8000000 in
set_option maxRecDepth 100000 in
theorem below_nil (w : World) : Calls Try.prog 15 #[.pointer none, .int .i64 9] w fun e w' => e = .returned (.int .i64 0) ∧ w = w' := by
  go_enter Try.func15, Try.ntmps15
  go_wp2_with fail
  go_ret
  exact ⟨rfl, rfl⟩
set_option maxHeartbeats 8000000 in
set_option maxRecDepth 100000 in
theorem picks_nil (w : World) : Calls Try.prog 18 #[.pointer none, .int .i64 1, .int .i64 5, .int .i64 1] w fun e w' => e = .returned (.slice none 0 0) ∧ w = w' := by
  go_enter Try.func18, Try.ntmps18
  go_wp2_with fail
  go_ret
  exact ⟨rfl, rfl⟩
set_option maxHeartbeats 8000000 in
set_option maxRecDepth 100000 in
theorem op_nil (w : World) : Calls Try.prog 16 #[.pointer none, .agg #[.int .i64 1, .int .i64 4, .int .i64 0, .int .i64 1, .int .i64 9], .int .i64 9] w fun e w' => e = .returned (.agg #[.int .i64 0, .int .u64 0, .int .u64 0, .int .i64 0]) ∧ Below w.heap.size w w' := by
  have hu37 := Try.underlying37
  go_enter Try.func16, Try.ntmps16
  go_wp2_with fail
  exact bodyPost_ret (results_cell_row rfl _ _ (w.heap.size + 1) 37 #[.int .i64 0, .int .u64 0, .int .u64 0, .int .i64 0] (0, 0) _ rfl (by have := blk_new (w.alloc (.cells #[.int .i64 1, .int .i64 4, .int .i64 0, .int .i64 1, .int .i64 9] 31)) (.cells #[.int .i64 0, .int .u64 0, .int .u64 0, .int .i64 0] 37); simpa using this) Try.underlying37 rfl (by kernel_rfl)) rfl ⟨rfl, below_alloc (below_alloc (Below.refl _ _) _) _⟩
end Go.Proofs.Ytcphmelmieedfaa.PMintExact

namespace Go.Proofs.Ytcphmelmieedfaa.PMintExact
open Go Go.RowKit Go.Proofs.YtcphmelmieedfaaW.PrintWords Go.Proofs.YtcphmelmieedfaaW.PrintLast Go.Proofs.YtcphmelmieedfaaW.PrintMore Go.Proofs.Ytcphmelmieedfaa.U
attribute [local go_sem] max2_int min2_int max_two min_two max_three min_three max_four min_four
set_option linter.unusedVariables false
set_option linter.unusedSimpArgs false
structure S31 where
  f0 : Int
  f1 : Int
  f2 : Int
  f3 : Int
  f4 : Int
def k31 : Kd S31 := Kd.iso (Kd.pair (Kd.int .i64) (Kd.pair (Kd.int .i64) (Kd.pair (Kd.int .i64) (Kd.pair (Kd.int .i64) (Kd.int .i64))))) (fun x : S31 => (x.f0, x.f1, x.f2, x.f3, x.f4))
theorem k31_open {w : World} {x : S31} {cs : List Value} (h : k31.K w x cs) : cs = [.int .i64 x.f0, .int .i64 x.f1, .int .i64 x.f2, .int .i64 x.f3, .int .i64 x.f4] := by
  obtain ⟨_, _, rfl, rfl, ⟨_, _, rfl, rfl, ⟨_, _, rfl, rfl, ⟨_, _, rfl, rfl, rfl⟩⟩⟩⟩ := h
  rfl
structure S33 where
  f0 : Int
  f1 : S31
  f2 : Int
  f3 : Int
  f4 : Int
  f5 : Int
def k33 : Kd S33 := Kd.iso (Kd.pair (Kd.int .i64) (Kd.pair (k31) (Kd.pair (Kd.int .i64) (Kd.pair (Kd.int .i64) (Kd.pair (Kd.int .i64) (Kd.int .u64)))))) (fun x : S33 => (x.f0, x.f1, x.f2, x.f3, x.f4, x.f5))
theorem k33_open {w : World} {x : S33} {cs : List Value} (h : k33.K w x cs) : cs = [.int .i64 x.f0, .int .i64 x.f1.f0, .int .i64 x.f1.f1, .int .i64 x.f1.f2, .int .i64 x.f1.f3, .int .i64 x.f1.f4, .int .i64 x.f2, .int .i64 x.f3, .int .i64 x.f4, .int .u64 x.f5] := by
  obtain ⟨_, _, rfl, rfl, ⟨_, _, rfl, h1, ⟨_, _, rfl, rfl, ⟨_, _, rfl, rfl, ⟨_, _, rfl, rfl, rfl⟩⟩⟩⟩⟩ := h
  obtain rfl := k31_open h1
  rfl
def z33 : S33 := ⟨0, ⟨0, 0, 0, 0, 0⟩, 0, 0, 0, 0⟩
def rd_T33 (xs : List S33) (i : Int) : S33 := xs.getD i.toNat z33
theorem at_T33 {w : World} {A : Option Addr} {n : Nat} {xs : List S33} (h : Kd.C k33 w A n xs) (i : Int) (h0 : 0 ≤ i) (h1 : i < n) : ∃ ad, A = some ad ∧ w.cell? (ad.add (i.toNat * 10)) = some (.int .i64 (rd_T33 xs i).f0) ∧ w.cell? ⟨(ad.add (i.toNat * 10)).block, (ad.add (i.toNat * 10)).off + 1, none⟩ = some (.int .i64 (rd_T33 xs i).f1.f0) ∧ w.cell? ⟨(ad.add (i.toNat * 10)).block, (ad.add (i.toNat * 10)).off + 2, none⟩ = some (.int .i64 (rd_T33 xs i).f1.f1) ∧ w.cell? ⟨(ad.add (i.toNat * 10)).block, (ad.add (i.toNat * 10)).off + 3, none⟩ = some (.int .i64 (rd_T33 xs i).f1.f2) ∧ w.cell? ⟨(ad.add (i.toNat * 10)).block, (ad.add (i.toNat * 10)).off + 4, none⟩ = some (.int .i64 (rd_T33 xs i).f1.f3) ∧ w.cell? ⟨(ad.add (i.toNat * 10)).block, (ad.add (i.toNat * 10)).off + 5, none⟩ = some (.int .i64 (rd_T33 xs i).f1.f4) ∧ w.cell? ⟨(ad.add (i.toNat * 10)).block, (ad.add (i.toNat * 10)).off + 6, none⟩ = some (.int .i64 (rd_T33 xs i).f2) ∧ w.cell? ⟨(ad.add (i.toNat * 10)).block, (ad.add (i.toNat * 10)).off + 7, none⟩ = some (.int .i64 (rd_T33 xs i).f3) ∧ w.cell? ⟨(ad.add (i.toNat * 10)).block, (ad.add (i.toNat * 10)).off + 8, none⟩ = some (.int .i64 (rd_T33 xs i).f4) ∧ w.cell? ⟨(ad.add (i.toNat * 10)).block, (ad.add (i.toNat * 10)).off + 9, none⟩ = some (.int .u64 (rd_T33 xs i).f5) := by
  obtain ⟨ad, c, e, _, hK, hc0⟩ := Kd.C_get h z33 i h0 h1
  have hc : ∀ j u, c[j]? = some u → w.cell? (ad.add (i.toNat * 10 + j)) = some u := hc0
  obtain rfl := k33_open hK
  exact ⟨ad, e, hc 0 _ rfl, by rw [← add_field _ _ 1 (by omega)]; exact hc 1 _ rfl, by rw [← add_field _ _ 2 (by omega)]; exact hc 2 _ rfl, by rw [← add_field _ _ 3 (by omega)]; exact hc 3 _ rfl, by rw [← add_field _ _ 4 (by omega)]; exact hc 4 _ rfl, by rw [← add_field _ _ 5 (by omega)]; exact hc 5 _ rfl, by rw [← add_field _ _ 6 (by omega)]; exact hc 6 _ rfl, by rw [← add_field _ _ 7 (by omega)]; exact hc 7 _ rfl, by rw [← add_field _ _ 8 (by omega)]; exact hc 8 _ rfl, by rw [← add_field _ _ 9 (by omega)]; exact hc 9 _ rfl⟩
set_option maxHeartbeats 16000000 in
set_option maxRecDepth 100000 in
theorem exact_T (b : BitVec 64) (A0 : Option Addr) (c0 : Nat) (xs : List S33) (w : World) (hr0 : Kd.C k33 w A0 xs.length xs) (hw : ∀ (i : Int), 0 ≤ i → i < xs.length → 0 ≤ (rd_T33 xs i).f5 ∧ (rd_T33 xs i).f5 < 18446744073709551616) :
    Calls Try.prog 3 #[.int .u64 (I b), .slice A0 xs.length c0] w fun e w' => e = .returned (.bool true) ∧ Below w.heap.size w w' := by
  have hu33 := Try.underlying33
  have hu31 := Try.underlying31
  have hu37 := Try.underlying37
  have HR0 := Aside0.mk hr0
  have HW := Aside0.mk hw
  have HL := Aside0.mk hr0.2.1
  clear hr0 hw
  go_enter Try.func3, Try.ntmps3
  go_wp2_with fail
  refine (awakeT _).mono ?_
  rintro e w1 ⟨rfl, B1⟩
  have C1 := Aside0.mk B1
  clear B1
  go_wp2_with fail
  refine (mint_New.calls (I b) (I (seed0 b)) w w1 C1.out (new_f b)).mono ?_
  rintro e w2 ⟨g1, rfl, I1, B1, _⟩
  have J1 := Aside0.mk I1
  have C2 := Aside0.mk B1
  clear I1 B1 C1
  go_wp2_with fail
  refine (revenantref34_New.calls (I b) (I (seed0 b)) w w2 C2.out (rnew_f b)).mono ?_
  rintro e w3 ⟨g2, rfl, I2, B2, B3⟩
  have K2 := Aside0.mk I2
  have J2 := Aside0.mk (J1.out.below B3)
  have C3 := Aside0.mk B2
  clear I2 B2 B3 J1 C2
  go_wp2_with fail
  go_loopg [4, 7] 60 (fun kq v4 v7 w' => ∃ (i : Int) (s : BitVec 64), v4 = .bool false ∧ v7 = .int .i64 i ∧ Aside0 (0 ≤ i ∧ i + kq = 60) ∧ Aside0 (IsS71 w w' g1 (I s)) ∧ Aside0 (IsS73 w w' g2 (I s)) ∧ Aside0 (Below w.heap.size w w'))
  case atStart => exact ⟨0, seed0 b, rfl, rfl, ⟨by omega⟩, J2, K2, C3⟩
  case round =>
    clear J2 K2 C3
    obtain ⟨i, s, rfl, rfl, HK, J1, K1, C1⟩ := hrel
    by_cases hi : i < (xs.length : Int) ∧ i < 60
    · have t1 : decide (i < (xs.length : Int)) = true := decide_eq_true hi.1
      have t2 : decide (i < 60) = true := decide_eq_true hi.2
      have p0 : (0 : Int) ≤ i := HK.out.1
      have q0 : i < (xs.length : Int) := hi.1
      have q1 : i < 60 := hi.2
      clear hi
      obtain ⟨ko, rfl⟩ : ∃ m, gk = m + 1 := ⟨gk - 1, by have := HK.out; omega⟩
      obtain ⟨ad, e0, hx0, hx1, hx2, hx3, hx4, hx5, hx6, hx7, hx8, hx9⟩ := at_T33 HR0.out i p0 q0
      cases e0
      have hwd := HW.out i p0 q0
      have e5 : (rd_T33 xs i).f5 = I (B (rd_T33 xs i).f5) := (I_B_of hwd.1 hwd.2).symm
      rw [e5] at hx9
      replace hx0 := (C1.out.cell (World.block_lt_of_cell? w _ hx0)).trans hx0
      replace hx1 := (C1.out.cell (World.block_lt_of_cell? w _ hx1)).trans hx1
      replace hx2 := (C1.out.cell (World.block_lt_of_cell? w _ hx2)).trans hx2
      replace hx3 := (C1.out.cell (World.block_lt_of_cell? w _ hx3)).trans hx3
      replace hx4 := (C1.out.cell (World.block_lt_of_cell? w _ hx4)).trans hx4
      replace hx5 := (C1.out.cell (World.block_lt_of_cell? w _ hx5)).trans hx5
      replace hx6 := (C1.out.cell (World.block_lt_of_cell? w _ hx6)).trans hx6
      replace hx7 := (C1.out.cell (World.block_lt_of_cell? w _ hx7)).trans hx7
      replace hx8 := (C1.out.cell (World.block_lt_of_cell? w _ hx8)).trans hx8
      replace hx9 := (C1.out.cell (World.block_lt_of_cell? w _ hx9)).trans hx9
      have p0c := Aside0.mk p0
      have q0c := Aside0.mk q0
      have p0b : decide (0 ≤ i) = true := decide_eq_true p0
      replace p0 := eq_true p0
      replace q0 := eq_true q0
      clear hwd e5
      generalize B (rd_T33 xs i).f5 = wd at hx9
      go_wp2_with fail
      refine (does_T g1 g2 s wd (rd_T33 xs i).f0 (rd_T33 xs i).f1.f0 (rd_T33 xs i).f1.f1 (rd_T33 xs i).f1.f2 (rd_T33 xs i).f1.f3 (rd_T33 xs i).f1.f4 (rd_T33 xs i).f2 (rd_T33 xs i).f3 (rd_T33 xs i).f4 w _ J1.out K1.out C1.out).mono ?_
      rintro e w5 ⟨rfl, s2, I5, I6, B5⟩
      have J5 := Aside0.mk I5
      have K5 := Aside0.mk I6
      have C5 := Aside0.mk B5
      have b4 : 0 ≤ i := p0c.out
      clear I5 I6 B5 hx0 hx1 hx2 hx3 hx4 hx5 hx6 hx7 hx8 hx9
      go_wp2_with fail
      go_roundg ko
      case rel => exact ⟨i + 1, s2, rfl, rfl, ⟨by have := HK.out; omega⟩, J5, K5, C5⟩
      case measure => exact Nat.lt_succ_self _
    · have tt : decide (i < (xs.length : Int)) = false ∨ (decide (i < (xs.length : Int)) = true ∧ decide (i < 60) = false) := by
        by_cases h : i < (xs.length : Int)
        · exact .inr ⟨decide_eq_true h, decide_eq_false (fun h2 => hi ⟨h, h2⟩)⟩
        · exact .inl (decide_eq_false h)
      clear hi
      rcases tt with t1 | ⟨t1, t2⟩
      all_goals
        go_wp2_with fail
        refine (next_nil _).mono ?_
        rintro e w5 ⟨rfl, rfl⟩
        go_wp2_with fail
        refine (below_nil _).mono ?_
        rintro e w5 ⟨rfl, rfl⟩
        go_wp2_with fail
        refine (revenantlaw34_list.calls 1 4 0 1 9 _ (by decide +kernel)).mono ?_
        rintro e w5 ⟨rfl, B5⟩
        have C5 := Aside0.mk (below_step C1.out B5)
        clear B5
        go_wp2_with fail
        refine (op_nil _).mono ?_
        rintro e w6 ⟨rfl, B6⟩
        have C6 := Aside0.mk (below_step C5.out B6)
        clear B6
        go_wp2_with fail
        refine (picks_nil _).mono ?_
        rintro e w7 ⟨rfl, rfl⟩
        go_wp2_with fail
        go_ret
        exact ⟨rfl, C6.out⟩
def revenantlaw34_MintExact.f (a0 : Int) (l1 : List S33) : Option Bool := if (0 ≤ a0 ∧ a0 < 18446744073709551616) ∧ (∀ x ∈ l1, 0 ≤ x.f5 ∧ x.f5 < 18446744073709551616) then some true else none
theorem revenantlaw34_MintExact.calls (a0 : Int) (A1 : Option Addr) (c1 : Nat) (l1 : List S33) (r : Bool) (w : World) (hr1 : Kd.C k33 w A1 l1.length l1) (hc1 : l1.length ≤ c1) (h : revenantlaw34_MintExact.f a0 l1 = some r) :
    Calls Try.prog 3 #[.int .u64 a0, .slice A1 l1.length c1] w fun e w' => e = .returned (.bool r) ∧ Below w.heap.size w w' := by
  unfold revenantlaw34_MintExact.f at h
  by_cases hc : (0 ≤ a0 ∧ a0 < 18446744073709551616) ∧ (∀ x ∈ l1, 0 ≤ x.f5 ∧ x.f5 < 18446744073709551616)
  · rw [if_pos hc] at h
    obtain rfl := Option.some.inj h
    have := exact_T (B a0) A1 c1 l1 w hr1 (fun i h0 h1 => by
      have hlt : i.toNat < l1.length := by omega
      have e : rd_T33 l1 i = l1[i.toNat] := by simp [rd_T33, hlt]
      rw [e]
      exact hc.2 _ (List.getElem_mem hlt))
    rw [I_B_of hc.1.1 hc.1.2] at this
    exact this
  · rw [if_neg hc] at h
    cases h
theorem RMintExact (a0 : Int) (l1 : List S33) (g0 : (Lit.int .u64 a0).wf = true) (g1 : l1.length ≤ maxLen ∧ l1.length * 80 ≤ 140737488351232 ∧ ∀ y ∈ l1, ((Lit.int .i64 y.f0).wf = true ∧ ((Lit.int .i64 y.f1.f0).wf = true ∧ (Lit.int .i64 y.f1.f1).wf = true ∧ (Lit.int .i64 y.f1.f2).wf = true ∧ (Lit.int .i64 y.f1.f3).wf = true ∧ (Lit.int .i64 y.f1.f4).wf = true) ∧ (Lit.int .i64 y.f2).wf = true ∧ (Lit.int .i64 y.f3).wf = true ∧ (Lit.int .i64 y.f4).wf = true ∧ (Lit.int .u64 y.f5).wf = true)) :
    revenantlaw34_MintExact.f a0 l1 = some true :=
  if_pos ⟨wf_u64.1 g0, fun x hx => wf_u64.1 (g1.2.2 x hx).2.2.2.2.2⟩
end Go.Proofs.Ytcphmelmieedfaa.PMintExact

