/-
The closed function awake of layer 22 answers true; what lay in memory stays.
-/
import Derived.Test.YtcphmelmieedfaaTurnsB
import Derived.Test.YtcphmelmieedfaaTurnsC
import Derived.Test.YtcphmelmieedfaaTurnsD
import Derived.Test.YtcphmelmieedfaaPScriptTurnsx3
import Derived.Test.YtcphmelmieedfaaPScriptTurnsx4
import Derived.Test.YtcphmelmieedfaaPScriptTurnsx5
import Derived.Test.YtcphmelmieedfaaPScriptTurnsx6
namespace Go.Proofs.Ytcphmelmieedfaa.PScriptTurns
open Go Go.RowKit Go.Proofs.YtcphmelmieedfaaW.PrintWords Go.Proofs.YtcphmelmieedfaaW.PrintLast Go.Proofs.YtcphmelmieedfaaW.PrintMore Go.Proofs.Ytcphmelmieedfaa.U
attribute [local go_sem] max2_int min2_int max_two min_two max_three min_three max_four min_four
set_option linter.unusedVariables false
set_option linter.unusedSimpArgs false
def awOps : List (List S37) := [[⟨3, 0, 0, 0⟩], []]
theorem aw_C5 {W : World} {H : Nat} (h0 : W.heap[H]? = some (.cells #[.int .i64 3, .int .u64 0, .int .u64 0, .int .i64 0] 37 (0, 0)))
    (h2 : W.heap[H + 2]? = some (.cells #[.slice (some ⟨H, 0, none⟩) 1 1, .slice (some ⟨H + 1, 0, none⟩) 0 0] 55 (0, 0))) : Kd.C (Kd.slice 37 k37) W (some ⟨H + 2, 0, none⟩) 2 awOps := by
  refine ⟨rfl, by decide, fun _ => ⟨_, rfl, fun j p hj => ?_⟩⟩
  match j, hj with
  | 0, hj =>
    obtain rfl : p = [⟨3, 0, 0, 0⟩] := by simpa [awOps] using hj.symm
    refine ⟨[.slice (some ⟨H, 0, none⟩) 1 1], rfl, ⟨_, 1, rfl, by decide, rfl, by decide, fun _ => ⟨_, rfl, fun j q hq => ?_⟩⟩, fun i u hu => ?_⟩
    · match j, hq with
      | 0, hq =>
        obtain rfl : q = ⟨3, 0, 0, 0⟩ := by simpa using hq.symm
        refine ⟨[.int .i64 3, .int .u64 0, .int .u64 0, .int .i64 0], rfl, k37_mk W ⟨3, 0, 0, 0⟩, fun i u hu => ?_⟩
        have := blk_cell h0 i
        have e : (Addr.add ⟨H, 0, none⟩ (0 * k37.sz + i)) = ⟨H, i, none⟩ := by rw [Addr.add_lit, Nat.zero_mul, Nat.zero_add, Nat.zero_add]
        rw [e, this, ← hu]
        simp
      | j + 1, hq => simp at hq
    · match i, hu with
      | 0, hu =>
        obtain rfl := Option.some.inj hu
        exact (blk_cell h2 0).trans rfl
      | i + 1, hu => simp at hu
  | 1, hj =>
    obtain rfl : p = [] := by simpa [awOps] using hj.symm
    refine ⟨[.slice (some ⟨H + 1, 0, none⟩) 0 0], rfl, ⟨_, 0, rfl, by decide, rfl, by decide, fun h => absurd h (Nat.lt_irrefl 0)⟩, fun i u hu => ?_⟩
    match i, hu with
    | 0, hu =>
      obtain rfl := Option.some.inj hu
      exact (blk_cell h2 1).trans rfl
    | i + 1, hu => simp at hu
  | j + 2, hj => simp [awOps] at hj
theorem aw_C6 {W : World} {H n : Nat} (xs : List Int) (vs : Array Value) (h3 : W.heap[H]? = some (.cells vs 3 (0, 0))) (hn : xs.length = n) (h63 : n ≤ 9223372036854775807) (hv : ∀ (j : Nat) (p : Int), xs[j]? = some p → vs[j]? = some (Value.int .i64 p)) : Kd.C (Kd.int .i64) W (some ⟨H, 0, none⟩) n xs := by
  refine ⟨hn, h63, fun _ => ⟨_, rfl, fun j p hj => ⟨[.int .i64 p], rfl, rfl, fun i u hu => ?_⟩⟩⟩
  match i, hu with
  | 0, hu =>
    obtain rfl := Option.some.inj hu
    have e : (Addr.add ⟨H, 0, none⟩ (j * (Kd.int .i64).sz + 0)) = ⟨H, j, none⟩ := by rw [Addr.add_lit, show (Kd.int .i64).sz = 1 from rfl, Nat.mul_one, Nat.add_zero, Nat.zero_add]
    rw [e, blk_cell h3 j]
    exact hv j p hj
  | i + 1, hu => simp at hu
theorem aw_v1 : scV 1 2 0 1 2 awOps [0, 1, 0, 2] = (3, 0, 3) := by decide +kernel
theorem aw_v2 : scV 1 2 0 1 2 awOps [0, 1, 0] = (0, 0, 0) := by decide +kernel
theorem aw_round : script_Round.f 60 1 2 0 1 2 awOps [0, 1, 0] 2 = some (1, 2, 0, 1, 2, awOps, [0, 1, 0, 0, 1, 0, 1]) := by kernel_rfl
theorem aw_copy : script_Copy.f 60 1 2 0 1 2 awOps [0, 1, 0] = some (1, 2, 0, 1, 2, awOps, [0, 1, 0]) := by kernel_rfl
theorem aw_count : script_Count.f 60 1 2 0 1 2 awOps [0, 1, 0] = some 1 := by kernel_rfl
theorem aw_longest : script_Longest.f 60 1 2 0 1 2 awOps [0, 1, 0] 0 = some 1 := by kernel_rfl
theorem aw_keep : (keep 0 [0, 1, 0]).length = 1 := by decide +kernel
structure AW (W : World) (H : Nat) : Prop where
  h0 : W.heap[H]? = some (.cells #[.int .i64 3, .int .u64 0, .int .u64 0, .int .i64 0] 37 (0, 0))
  h2 : W.heap[H + 2]? = some (.cells #[.slice (some ⟨H, 0, none⟩) 1 1, .slice (some ⟨H + 1, 0, none⟩) 0 0] 55 (0, 0))
  h3 : W.heap[H + 3]? = some (.cells #[.int .i64 0, .int .i64 1, .int .i64 0, .int .i64 2] 3 (0, 0))
theorem AW.below {W W' : World} {H : Nat} (h : AW W H) (hb : Below W.heap.size W W') : AW W' H := ⟨blk_below h.h0 hb, blk_below h.h2 hb, blk_below h.h3 hb⟩
theorem AW.drew {W : World} {H : Nat} (h : AW W H) : AW W.drew H := ⟨blk_drew h.h0, blk_drew h.h2, blk_drew h.h3⟩
theorem AW.c5 {W : World} {H : Nat} (h : AW W H) : Kd.C (Kd.slice 37 k37) W (some ⟨H + 2, 0, none⟩) 2 awOps := aw_C5 h.h0 h.h2
theorem AW.c6 {W : World} {H : Nat} (h : AW W H) : Kd.C (Kd.int .i64) W (some ⟨H + 3, 0, none⟩) 3 [0, 1, 0] :=
  aw_C6 [0, 1, 0] _ h.h3 rfl (by decide) (by intro j p hj; match j, hj with | 0, hj => simpa using hj | 1, hj => simpa using hj | 2, hj => simpa using hj | j + 3, hj => simp at hj)
theorem aw_check (H : Nat) (W : World) (h : AW W H) : Calls Try.prog 25 #[.agg #[.int .i64 1, .int .i64 2, .int .i64 0, .int .i64 1, .int .i64 2, .slice (some ⟨H + 2, 0, none⟩) 2 2, .slice (some ⟨H + 3, 0, none⟩) 3 4]] W fun e w' => e = .returned (.agg #[.int .i64 0, .int .i64 0, .int .i64 0]) ∧ Below W.heap.size W w' := by
  have := check_T 1 2 0 1 2 (some ⟨H + 2, 0, none⟩) 2 awOps (some ⟨H + 3, 0, none⟩) 4 [0, 1, 0] W h.c5 h.c6
  rw [aw_v2] at this
  exact this
theorem aw_cnt (H : Nat) (W : World) (h : AW W H) : Calls Try.prog 26 #[.agg #[.int .i64 1, .int .i64 2, .int .i64 0, .int .i64 1, .int .i64 2, .slice (some ⟨H + 2, 0, none⟩) 2 2, .slice (some ⟨H + 3, 0, none⟩) 3 4]] W fun e w' => e = .returned (.int .i64 1) ∧ Below W.heap.size W w' :=
  script_Count.calls 60 1 2 0 1 2 (some ⟨H + 2, 0, none⟩) 2 awOps (some ⟨H + 3, 0, none⟩) 4 [0, 1, 0] 1 W h.c5 (by decide) h.c6 (by decide) aw_count
theorem aw_long (H : Nat) (W : World) (h : AW W H) : Calls Try.prog 34 #[.agg #[.int .i64 1, .int .i64 2, .int .i64 0, .int .i64 1, .int .i64 2, .slice (some ⟨H + 2, 0, none⟩) 2 2, .slice (some ⟨H + 3, 0, none⟩) 3 4], .int .i64 0] W fun e w' => e = .returned (.int .i64 1) ∧ Below W.heap.size W w' :=
  script_Longest.calls 60 1 2 0 1 2 (some ⟨H + 2, 0, none⟩) 2 awOps (some ⟨H + 3, 0, none⟩) 4 [0, 1, 0] 0 1 W h.c5 (by decide) h.c6 (by decide) aw_longest
theorem aw_with (H : Nat) (W : World) (h : AW W H) : Calls Try.prog 30 #[.agg #[.int .i64 1, .int .i64 2, .int .i64 0, .int .i64 1, .int .i64 2, .slice (some ⟨H + 2, 0, none⟩) 2 2, .slice (some ⟨H + 3, 0, none⟩) 3 4], .int .i64 0] W
    fun e w' => ∃ A1 n1 c1 A2 c2, e = .returned (.agg #[.int .i64 1, .int .i64 2, .int .i64 0, .int .i64 1, .int .i64 2, .slice A1 n1 c1, .slice A2 1 c2]) ∧ Below W.heap.size W w' := by
  refine (without_T 60 1 2 0 1 2 0 (some ⟨H + 2, 0, none⟩) 2 awOps (some ⟨H + 3, 0, none⟩) 4 [0, 1, 0] W h.c5 (by decide) h.c6 (by decide) aw_copy).mono ?_
  rintro e w' ⟨v5, v6, rfl, S5, R6, hb⟩
  obtain ⟨A1, c1, rfl⟩ := Kd.S_slice S5
  obtain ⟨A2, c2, rfl⟩ := Kd.R_slice R6
  rw [aw_keep]
  exact ⟨_, _, _, _, _, rfl, hb⟩
theorem aw_cp (H : Nat) (W : World) (h : AW W H) : Calls Try.prog 32 #[.agg #[.int .i64 1, .int .i64 2, .int .i64 0, .int .i64 1, .int .i64 2, .slice (some ⟨H + 2, 0, none⟩) 2 2, .slice (some ⟨H + 3, 0, none⟩) 3 4]] W
    fun e w' => ∃ A3 c3 A4 c4, e = .returned (.agg #[.int .i64 1, .int .i64 2, .int .i64 0, .int .i64 1, .int .i64 2, .slice A3 2 c3, .slice A4 3 c4]) ∧ Kd.C (Kd.slice 37 k37) w' A3 2 awOps ∧ Kd.C (Kd.int .i64) w' A4 3 [0, 1, 0] ∧ 3 ≤ c4 ∧ Below W.heap.size W w' := by
  refine (script_Copy.calls 60 1 2 0 1 2 (some ⟨H + 2, 0, none⟩) 2 awOps (some ⟨H + 3, 0, none⟩) 4 [0, 1, 0] 1 2 0 1 2 awOps [0, 1, 0] W h.c5 (by decide) h.c6 (by decide) aw_copy).mono ?_
  rintro e w' ⟨v5, v6, rfl, S5, R6, hb⟩
  obtain ⟨A3, c3, rfl, _, hC5⟩ := Kd.S_reads S5
  obtain ⟨A4, c4, rfl, h4, hC6⟩ := Kd.R_reads R6
  exact ⟨A3, c3, A4, c4, rfl, hC5, hC6, h4, hb⟩
theorem aw_same (H : Nat) (W : World) (h : AW W H) (A3 : Option Addr) (c3 : Nat) (A4 : Option Addr) (c4 : Nat) (h5 : Kd.C (Kd.slice 37 k37) W A3 2 awOps) (h6 : Kd.C (Kd.int .i64) W A4 3 [0, 1, 0]) (h7 : 3 ≤ c4) :
    Calls Try.prog 22 #[.agg #[.int .i64 1, .int .i64 2, .int .i64 0, .int .i64 1, .int .i64 2, .slice (some ⟨H + 2, 0, none⟩) 2 2, .slice (some ⟨H + 3, 0, none⟩) 3 4], .agg #[.int .i64 1, .int .i64 2, .int .i64 0, .int .i64 1, .int .i64 2, .slice A3 2 c3, .slice A4 3 c4]] W fun e w' => e = .returned (.bool true) ∧ Below W.heap.size W w' := by
  have := same_T 1 2 0 1 2 (some ⟨H + 2, 0, none⟩) 2 awOps (some ⟨H + 3, 0, none⟩) 4 [0, 1, 0] 1 2 0 1 2 A3 c3 awOps A4 c4 [0, 1, 0] W h.c5 h.c6 (by decide) h5 h6 h7
  rw [show decide ((((1 : Int), (2 : Int), (0 : Int), (1 : Int), (2 : Int)) = (1, 2, 0, 1, 2) ∧ awOps = awOps) ∧ ([0, 1, 0] : List Int) = [0, 1, 0]) = true from decide_eq_true ⟨⟨rfl, rfl⟩, rfl⟩] at this
  exact this
theorem new_at {W : World} {n : Nat} (h : n = W.heap.size) (o : Obj) : (W.alloc o).heap[n]? = some o := by subst h; exact blk_new W o
set_option maxHeartbeats 8000000 in
set_option maxRecDepth 100000 in
theorem awake22T (w : World) : Calls Try.prog 27 #[] w fun e w' => e = .returned (.bool true) ∧ Below w.heap.size w w' := by
  have hu49 := Try.underlying49
  have hu57 := Try.underlying57
  have hu40 := Try.underlying40
  obtain ⟨W5, hW5⟩ : ∃ W5, W5 = ((((w.alloc (.cells #[.int .i64 3, .int .u64 0, .int .u64 0, .int .i64 0] 37)).alloc (.cells #[] 37)).alloc (.cells #[.slice (some ⟨w.heap.size, 0, none⟩) 1 1, .slice (some ⟨w.heap.size + 1, 0, none⟩) 0 0] 55)).alloc (.cells #[.int .i64 0, .int .i64 1, .int .i64 0, .int .i64 2] 3)).alloc (.cells #[.int .i64 1, .int .i64 2, .int .i64 0, .int .i64 1, .int .i64 2, .slice (some ⟨w.heap.size + 1 + 1, 0, none⟩) 2 2, .slice (some ⟨w.heap.size + 1 + 1 + 1, 0, none⟩) 4 4] 49) := ⟨_, rfl⟩
  have B5 := Aside0.mk (show Below w.heap.size w W5 by rw [hW5]; exact below_alloc (below_alloc (below_alloc (below_alloc (below_alloc (Below.refl _ _) _) _) _) _) _)
  have K0 := Aside0.mk (show W5.heap[w.heap.size]? = some (.cells #[.int .i64 3, .int .u64 0, .int .u64 0, .int .i64 0] 37 (0, 0)) by rw [hW5]; exact blk_alloc (blk_alloc (blk_alloc (blk_alloc (new_at rfl _) _) _) _) _)
  have K2 := Aside0.mk (show W5.heap[w.heap.size + 2]? = some (.cells #[.slice (some ⟨w.heap.size, 0, none⟩) 1 1, .slice (some ⟨w.heap.size + 1, 0, none⟩) 0 0] 55 (0, 0)) by rw [hW5]; exact blk_alloc (blk_alloc (new_at (by simp) _) _) _)
  have K3 := Aside0.mk (show W5.heap[w.heap.size + 3]? = some (.cells #[.int .i64 0, .int .i64 1, .int .i64 0, .int .i64 2] 3 (0, 0)) by rw [hW5]; exact blk_alloc (new_at (by simp) _) _)
  have K4 := Aside0.mk (show W5.heap[w.heap.size + 4]? = some (.cells #[.int .i64 1, .int .i64 2, .int .i64 0, .int .i64 1, .int .i64 2, .slice (some ⟨w.heap.size + 1 + 1, 0, none⟩) 2 2, .slice (some ⟨w.heap.size + 1 + 1 + 1, 0, none⟩) 4 4] 49 (0, 0)) by rw [hW5]; exact new_at (by simp) _)
  have HW5 := Aside0.mk hW5
  clear hW5
  go_enter Try.func27, Try.ntmps27
  go_wp2_with fail
  rw [← HW5.out]
  refine (check_T 1 2 0 1 2 (some ⟨w.heap.size + 2, 0, none⟩) 2 awOps (some ⟨w.heap.size + 3, 0, none⟩) 4 [0, 1, 0, 2] W5 (aw_C5 K0.out K2.out) (aw_C6 [0, 1, 0, 2] _ K3.out rfl (by decide) (by intro j p hj; match j, hj with | 0, hj => simpa using hj | 1, hj => simpa using hj | 2, hj => simpa using hj | 3, hj => simpa using hj | j + 4, hj => simp at hj))).mono ?_
  rw [aw_v1]
  rintro e w6 ⟨rfl, hb⟩
  have B6 := Aside0.mk (below_step B5.out hb)
  have L0 := Aside0.mk (blk_below K0.out hb)
  have L2 := Aside0.mk (blk_below K2.out hb)
  have L3 := Aside0.mk (blk_below K3.out hb)
  have L4 := Aside0.mk (blk_below K4.out hb)
  have g6 : ∀ o, (w6.alloc o).frozen? ⟨w.heap.size + 1 + 1 + 1 + 1, 6, none⟩ = false := fun o => blk_frozen (blk_alloc L4.out o) 6
  have c6 : ∀ o, (w6.alloc o).cell? ⟨w.heap.size + 1 + 1 + 1 + 1, 6, none⟩ = some (.slice (some ⟨w.heap.size + 1 + 1 + 1, 0, none⟩) 4 4) := fun o => (blk_cell (blk_alloc L4.out o) 6).trans rfl
  have c0 : ∀ o, (w6.alloc o).cell? ⟨w.heap.size + 1 + 1 + 1 + 1, 0, none⟩ = some (.int .i64 1) := fun o => (blk_cell (blk_alloc L4.out o) 0).trans rfl
  have c1 : ∀ o, (w6.alloc o).cell? ⟨w.heap.size + 1 + 1 + 1 + 1, 1, none⟩ = some (.int .i64 2) := fun o => (blk_cell (blk_alloc L4.out o) 1).trans rfl
  have c2 : ∀ o, (w6.alloc o).cell? ⟨w.heap.size + 1 + 1 + 1 + 1, 2, none⟩ = some (.int .i64 0) := fun o => (blk_cell (blk_alloc L4.out o) 2).trans rfl
  have c3 : ∀ o, (w6.alloc o).cell? ⟨w.heap.size + 1 + 1 + 1 + 1, 3, none⟩ = some (.int .i64 1) := fun o => (blk_cell (blk_alloc L4.out o) 3).trans rfl
  have c4 : ∀ o, (w6.alloc o).cell? ⟨w.heap.size + 1 + 1 + 1 + 1, 4, none⟩ = some (.int .i64 2) := fun o => (blk_cell (blk_alloc L4.out o) 4).trans rfl
  have c5 : ∀ o, (w6.alloc o).cell? ⟨w.heap.size + 1 + 1 + 1 + 1, 5, none⟩ = some (.slice (some ⟨w.heap.size + 1 + 1, 0, none⟩) 2 2) := fun o => (blk_cell (blk_alloc L4.out o) 5).trans rfl
  clear hb
  go_wp2_with fail
  have hM : AW ((w6.alloc (.cells #[.int .i64 3, .int .i64 0, .int .i64 3] 57)).setCell ⟨w.heap.size + 1 + 1 + 1 + 1, 6, none⟩ (.slice (some ⟨w.heap.size + 1 + 1 + 1, 0, none⟩) 3 4)) w.heap.size :=
    ⟨blk_far (blk_alloc L0.out _) (by simp; omega) _, blk_far (blk_alloc L2.out _) (by simp) _, blk_far (blk_alloc L3.out _) (by simp) _⟩
  have hM4 : ((w6.alloc (.cells #[.int .i64 3, .int .i64 0, .int .i64 3] 57)).setCell ⟨w.heap.size + 1 + 1 + 1 + 1, 6, none⟩ (.slice (some ⟨w.heap.size + 1 + 1 + 1, 0, none⟩) 3 4)).heap[w.heap.size + 1 + 1 + 1 + 1]? = some (.cells #[.int .i64 1, .int .i64 2, .int .i64 0, .int .i64 1, .int .i64 2, .slice (some ⟨w.heap.size + 1 + 1, 0, none⟩) 2 2, .slice (some ⟨w.heap.size + 1 + 1 + 1, 0, none⟩) 3 4] 49 (0, 0)) := blk_put (blk_alloc L4.out _) 6 _ rfl
  have hMF : ((w6.alloc (.cells #[.int .i64 3, .int .i64 0, .int .i64 3] 57)).setCell ⟨w.heap.size + 1 + 1 + 1 + 1, 6, none⟩ (.slice (some ⟨w.heap.size + 1 + 1 + 1, 0, none⟩) 3 4)).heap[w6.heap.size]? = some (.cells #[.int .i64 3, .int .i64 0, .int .i64 3] 57 (0, 0)) := blk_far (blk_new w6 _) (by have := blk_lt L4.out; simp; omega) _
  have hMB : Below w.heap.size w ((w6.alloc (.cells #[.int .i64 3, .int .i64 0, .int .i64 3] 57)).setCell ⟨w.heap.size + 1 + 1 + 1 + 1, 6, none⟩ (.slice (some ⟨w.heap.size + 1 + 1 + 1, 0, none⟩) 3 4)) := below_set (below_alloc B6.out _) (by omega)
  have MA := Aside0.mk hM
  have M4 := Aside0.mk hM4
  have MF := Aside0.mk hMF
  have MB := Aside0.mk hMB
  clear hM hM4 hMF hMB
  refine (script_Round.calls 60 1 2 0 1 2 (some ⟨w.heap.size + 2, 0, none⟩) 2 awOps (some ⟨w.heap.size + 3, 0, none⟩) 4 [0, 1, 0] 2 1 2 0 1 2 awOps [0, 1, 0, 0, 1, 0, 1] _ MA.out.c5 (by decide) MA.out.c6 (by decide) aw_round).mono ?_
  rintro e w8 ⟨v5, v6, rfl, S5, R6, hb⟩
  obtain ⟨A7, c7, e5⟩ := Kd.S_slice S5
  obtain ⟨A8, c8, e6⟩ := Kd.R_slice R6
  obtain rfl : v5 = .slice A7 2 c7 := e5
  obtain rfl : v6 = .slice A8 7 c8 := e6
  clear S5 R6 g6 c0 c1 c2 c3 c4 c5 c6
  have PA := Aside0.mk ((MA.out.below hb).below (below_alloc (Below.refl _ _) (.cells #[.int .i64 1, .int .i64 2, .int .i64 0, .int .i64 1, .int .i64 2, .slice A7 2 c7, .slice A8 7 c8] 49)))
  have P4 := Aside0.mk (blk_alloc (blk_below M4.out hb) (.cells #[.int .i64 1, .int .i64 2, .int .i64 0, .int .i64 1, .int .i64 2, .slice A7 2 c7, .slice A8 7 c8] 49))
  have PF := Aside0.mk (blk_alloc (blk_below MF.out hb) (.cells #[.int .i64 1, .int .i64 2, .int .i64 0, .int .i64 1, .int .i64 2, .slice A7 2 c7, .slice A8 7 c8] 49))
  have PT := Aside0.mk (blk_new w8 (.cells #[.int .i64 1, .int .i64 2, .int .i64 0, .int .i64 1, .int .i64 2, .slice A7 2 c7, .slice A8 7 c8] 49))
  have PB := Aside0.mk (below_alloc (below_step MB.out hb) (.cells #[.int .i64 1, .int .i64 2, .int .i64 0, .int .i64 1, .int .i64 2, .slice A7 2 c7, .slice A8 7 c8] 49))
  clear hb
  go_wp2_with fail
  refine start_ (n := 39) (S := fun w' => w'.cell? ⟨w.heap.size + 1 + 1 + 1 + 1, 0, none⟩ = some (.int .i64 1) ∧ w'.cell? ⟨w.heap.size + 1 + 1 + 1 + 1, 1, none⟩ = some (.int .i64 2) ∧ w'.cell? ⟨w.heap.size + 1 + 1 + 1 + 1, 2, none⟩ = some (.int .i64 0) ∧ w'.cell? ⟨w.heap.size + 1 + 1 + 1 + 1, 3, none⟩ = some (.int .i64 1) ∧ w'.cell? ⟨w.heap.size + 1 + 1 + 1 + 1, 4, none⟩ = some (.int .i64 2) ∧ w'.cell? ⟨w.heap.size + 1 + 1 + 1 + 1, 5, none⟩ = some (.slice (some ⟨w.heap.size + 1 + 1, 0, none⟩) 2 2) ∧ w'.cell? ⟨w.heap.size + 1 + 1 + 1 + 1, 6, none⟩ = some (.slice (some ⟨w.heap.size + 1 + 1 + 1, 0, none⟩) 3 4) ∧ w'.cell? ⟨w6.heap.size, 0, none⟩ = some (.int .i64 3) ∧ w'.cell? ⟨w6.heap.size, 1, none⟩ = some (.int .i64 0) ∧ w'.cell? ⟨w6.heap.size, 2, none⟩ = some (.int .i64 3) ∧ w'.cell? ⟨w8.heap.size, 6, none⟩ = some (.slice A8 7 c8)) (ds := []) #[false, false, false, false, false, false, false, false, false, false, false, false, false, false, false, false, false, false, false, false, false, false, false, false, false, false, false, false, false, false, false, false, false, false, false, false, false, false, false] (by kernel_rfl) rfl rfl ⟨(blk_cell (blk_drew P4.out) 0).trans rfl, (blk_cell (blk_drew P4.out) 1).trans rfl, (blk_cell (blk_drew P4.out) 2).trans rfl, (blk_cell (blk_drew P4.out) 3).trans rfl, (blk_cell (blk_drew P4.out) 4).trans rfl, (blk_cell (blk_drew P4.out) 5).trans rfl, (blk_cell (blk_drew P4.out) 6).trans rfl, (blk_cell (blk_drew PF.out) 0).trans rfl, (blk_cell (blk_drew PF.out) 1).trans rfl, (blk_cell (blk_drew PF.out) 2).trans rfl, (blk_cell (blk_drew PT.out) 6).trans rfl⟩ (fun hHeld => ?_)
  refine pure_ (i := 1) (N := some 20) (v := ?_) (a' := ?_) #[false, true, false, false, false, false, false, false, false, false, false, false, false, false, false, false, false, false, false, false, false, false, false, false, false, false, false, false, false, false, false, false, false, false, false, false, false, false, false] rfl rfl (by kernel_rfl) (fun _ _ _ h => h) (Or.inl ⟨by rfl, ?_⟩) ?_ ?_
  rotate_left
  · intro w'
    go_simp
    with_reducible rfl
  rotate_left
  · simp only [Act.put, List.setIfInBounds_toArray, List.set_cons_zero, List.set_cons_succ, i64_w, i32_w]
    rfl
  refine take_ (i := 0) (N := some 19) (v := ?_) (a' := ?_) #[true, true, false, false, false, false, false, false, false, false, false, false, false, false, false, false, false, false, false, false, false, false, false, false, false, false, false, false, false, false, false, false, false, false, false, false, false, false, false] rfl rfl (by kernel_rfl) (fun _ _ _ h => h) (Or.inl ⟨by rfl, ?_⟩) hHeld ?_ ?_
  rotate_left
  · rintro w' ⟨s0, s1, s2, s3, s4, s5, s6, s7, s8, s9, s10⟩
    go_simp
    with_reducible rfl
  rotate_left
  · simp only [Act.put, List.setIfInBounds_toArray, List.set_cons_zero, List.set_cons_succ, i64_w, i32_w]
    rfl
  refine pure_ (i := 2) (N := some 21) (v := ?_) (a' := ?_) #[true, true, true, false, false, false, false, false, false, false, false, false, false, false, false, false, false, false, false, false, false, false, false, false, false, false, false, false, false, false, false, false, false, false, false, false, false, false, false] rfl rfl (by kernel_rfl) (fun _ _ _ h => h) (Or.inl ⟨by rfl, ?_⟩) ?_ ?_
  rotate_left
  · intro w'
    go_simp
    with_reducible rfl
  rotate_left
  · simp only [Act.put, List.setIfInBounds_toArray, List.set_cons_zero, List.set_cons_succ, i64_w, i32_w]
    rfl
  refine pure_ (i := 3) (N := some 22) (v := ?_) (a' := ?_) #[true, true, true, true, false, false, false, false, false, false, false, false, false, false, false, false, false, false, false, false, false, false, false, false, false, false, false, false, false, false, false, false, false, false, false, false, false, false, false] rfl rfl (by kernel_rfl) (fun _ _ _ h => h) (Or.inl ⟨by rfl, ?_⟩) ?_ ?_
  rotate_left
  · intro w'
    go_simp
    with_reducible rfl
  rotate_left
  · simp only [Act.put, List.setIfInBounds_toArray, List.set_cons_zero, List.set_cons_succ, i64_w, i32_w]
    rfl
  refine pure_ (i := 6) (N := some 25) (v := ?_) (a' := ?_) #[true, true, true, true, false, false, true, false, false, false, false, false, false, false, false, false, false, false, false, false, false, false, false, false, false, false, false, false, false, false, false, false, false, false, false, false, false, false, false] rfl rfl (by kernel_rfl) (fun _ _ _ h => h) (Or.inl ⟨by rfl, ?_⟩) ?_ ?_
  rotate_left
  · intro w'
    go_simp
    with_reducible rfl
  rotate_left
  · simp only [Act.put, List.setIfInBounds_toArray, List.set_cons_zero, List.set_cons_succ, i64_w, i32_w]
    rfl
  refine take_ (i := 4) (N := some 23) (v := ?_) (a' := ?_) #[true, true, true, true, true, false, true, false, false, false, false, false, false, false, false, false, false, false, false, false, false, false, false, false, false, false, false, false, false, false, false, false, false, false, false, false, false, false, false] rfl rfl (by kernel_rfl) (fun _ _ _ h => h) (Or.inl ⟨by rfl, ?_⟩) hHeld ?_ ?_
  rotate_left
  · rintro w' ⟨s0, s1, s2, s3, s4, s5, s6, s7, s8, s9, s10⟩
    go_simp
    with_reducible rfl
  rotate_left
  · simp only [Act.put, List.setIfInBounds_toArray, List.set_cons_zero, List.set_cons_succ, i64_w, i32_w]
    rfl
  refine one_ (i := 5) (N := some 24) #[true, true, true, true, true, true, true, false, false, false, false, false, false, false, false, false, false, false, false, false, false, false, false, false, false, false, false, false, false, false, false, false, false, false, false, false, false, false, false] rfl rfl (by kernel_rfl) (by decide) (fun K hK => ?_)
  refine goes_ Try.func25 (by kernel_rfl) rfl #[Value.agg #[.int .i64 1, .int .i64 2, .int .i64 0, .int .i64 1, .int .i64 2, .slice (some ⟨w.heap.size + 1 + 1, 0, none⟩) 2 2, .slice (some ⟨w.heap.size + 1 + 1 + 1, 0, none⟩) 3 4]] (by rfl) rfl rfl (by simp only [List.map_toArray, List.map_cons, List.map_nil]; rfl) ?_
  with_reducible refine (aw_check w.heap.size _ PA.out.drew).mono ?_
  rintro e w10 ⟨rfl, hb⟩
  refine ⟨_, rfl, ?_⟩
  have Q4 := Aside0.mk (blk_below (blk_drew P4.out) hb)
  have QF := Aside0.mk (blk_below (blk_drew PF.out) hb)
  have QT := Aside0.mk (blk_below (blk_drew PT.out) hb)
  have QA := Aside0.mk (PA.out.drew.below hb)
  have QB := Aside0.mk (below_step (below_drew PB.out) hb)
  clear hb
  refine hK.out _ _ ⟨(blk_cell Q4.out 0).trans rfl, (blk_cell Q4.out 1).trans rfl, (blk_cell Q4.out 2).trans rfl, (blk_cell Q4.out 3).trans rfl, (blk_cell Q4.out 4).trans rfl, (blk_cell Q4.out 5).trans rfl, (blk_cell Q4.out 6).trans rfl, (blk_cell QF.out 0).trans rfl, (blk_cell QF.out 1).trans rfl, (blk_cell QF.out 2).trans rfl, (blk_cell QT.out 6).trans rfl⟩ (fun hHeld => ?_)
  clear hK K
  refine norm_ (a' := ?_) ?_ ?_
  rotate_left
  · show Act.put _ (some 24) _ = _
    simp only [Act.put, List.setIfInBounds_toArray, List.set_cons_zero, List.set_cons_succ, i64_w, i32_w]
    rfl
  refine pure_ (i := 7) (N := some 26) (v := ?_) (a' := ?_) #[true, true, true, true, true, true, true, true, false, false, false, false, false, false, false, false, false, false, false, false, false, false, false, false, false, false, false, false, false, false, false, false, false, false, false, false, false, false, false] rfl rfl (by kernel_rfl) (fun _ _ _ h => h) (Or.inl ⟨by rfl, ?_⟩) ?_ ?_
  rotate_left
  · intro w'
    go_simp
    with_reducible rfl
  rotate_left
  · simp only [Act.put, List.setIfInBounds_toArray, List.set_cons_zero, List.set_cons_succ, i64_w, i32_w]
    rfl
  refine pure_ (i := 8) (N := some 27) (v := ?_) (a' := ?_) #[true, true, true, true, true, true, true, true, true, false, false, false, false, false, false, false, false, false, false, false, false, false, false, false, false, false, false, false, false, false, false, false, false, false, false, false, false, false, false] rfl rfl (by kernel_rfl) (fun _ _ _ h => h) (Or.inl ⟨by rfl, ?_⟩) ?_ ?_
  rotate_left
  · intro w'
    go_simp
    with_reducible rfl
  rotate_left
  · simp only [Act.put, List.setIfInBounds_toArray, List.set_cons_zero, List.set_cons_succ, i64_w, i32_w]
    rfl
  refine pure_ (i := 9) (N := some 28) (v := ?_) (a' := ?_) #[true, true, true, true, true, true, true, true, true, true, false, false, false, false, false, false, false, false, false, false, false, false, false, false, false, false, false, false, false, false, false, false, false, false, false, false, false, false, false] rfl rfl (by kernel_rfl) (fun _ _ _ h => h) (Or.inl ⟨by rfl, ?_⟩) ?_ ?_
  rotate_left
  · intro w'
    go_simp
    with_reducible rfl
  rotate_left
  · simp only [Act.put, List.setIfInBounds_toArray, List.set_cons_zero, List.set_cons_succ, i64_w, i32_w]
    rfl
  refine take_ (i := 10) (N := some 29) (v := ?_) (a' := ?_) #[true, true, true, true, true, true, true, true, true, true, true, false, false, false, false, false, false, false, false, false, false, false, false, false, false, false, false, false, false, false, false, false, false, false, false, false, false, false, false] rfl rfl (by kernel_rfl) (fun _ _ _ h => h) (Or.inl ⟨by rfl, ?_⟩) hHeld ?_ ?_
  rotate_left
  · rintro w' ⟨s0, s1, s2, s3, s4, s5, s6, s7, s8, s9, s10⟩
    go_simp
    with_reducible rfl
  rotate_left
  · simp only [Act.put, List.setIfInBounds_toArray, List.set_cons_zero, List.set_cons_succ, i64_w, i32_w]
    rfl
  refine one_ (i := 11) (N := some 30) #[true, true, true, true, true, true, true, true, true, true, true, true, false, false, false, false, false, false, false, false, false, false, false, false, false, false, false, false, false, false, false, false, false, false, false, false, false, false, false] rfl rfl (by kernel_rfl) (by decide) (fun K hK => ?_)
  refine goes_ Try.func26 (by kernel_rfl) rfl #[Value.agg #[.int .i64 1, .int .i64 2, .int .i64 0, .int .i64 1, .int .i64 2, .slice (some ⟨w.heap.size + 1 + 1, 0, none⟩) 2 2, .slice (some ⟨w.heap.size + 1 + 1 + 1, 0, none⟩) 3 4]] (by rfl) rfl rfl (by simp only [List.map_toArray, List.map_cons, List.map_nil]; rfl) ?_
  with_reducible refine (aw_cnt w.heap.size _ QA.out).mono ?_
  rintro e w11 ⟨rfl, hb⟩
  refine ⟨_, rfl, ?_⟩
  have R4 := Aside0.mk (blk_below Q4.out hb)
  have RF := Aside0.mk (blk_below QF.out hb)
  have RT := Aside0.mk (blk_below QT.out hb)
  have RA := Aside0.mk (QA.out.below hb)
  have RB := Aside0.mk (below_step QB.out hb)
  clear hb
  refine hK.out _ _ ⟨(blk_cell R4.out 0).trans rfl, (blk_cell R4.out 1).trans rfl, (blk_cell R4.out 2).trans rfl, (blk_cell R4.out 3).trans rfl, (blk_cell R4.out 4).trans rfl, (blk_cell R4.out 5).trans rfl, (blk_cell R4.out 6).trans rfl, (blk_cell RF.out 0).trans rfl, (blk_cell RF.out 1).trans rfl, (blk_cell RF.out 2).trans rfl, (blk_cell RT.out 6).trans rfl⟩ (fun hHeld => ?_)
  clear hK K
  refine norm_ (a' := ?_) ?_ ?_
  rotate_left
  · show Act.put _ (some 30) _ = _
    simp only [Act.put, List.setIfInBounds_toArray, List.set_cons_zero, List.set_cons_succ, i64_w, i32_w]
    rfl
  refine pure_ (i := 12) (N := some 31) (v := ?_) (a' := ?_) #[true, true, true, true, true, true, true, true, true, true, true, true, true, false, false, false, false, false, false, false, false, false, false, false, false, false, false, false, false, false, false, false, false, false, false, false, false, false, false] rfl rfl (by kernel_rfl) (fun _ _ _ h => h) (Or.inl ⟨by rfl, ?_⟩) ?_ ?_
  rotate_left
  · intro w'
    go_simp
    with_reducible rfl
  rotate_left
  · simp only [Act.put, List.setIfInBounds_toArray, List.set_cons_zero, List.set_cons_succ, i64_w, i32_w]
    rfl
  refine pure_ (i := 13) (N := some 32) (v := ?_) (a' := ?_) #[true, true, true, true, true, true, true, true, true, true, true, true, true, true, false, false, false, false, false, false, false, false, false, false, false, false, false, false, false, false, false, false, false, false, false, false, false, false, false] rfl rfl (by kernel_rfl) (fun _ _ _ h => h) (Or.inl ⟨by rfl, ?_⟩) ?_ ?_
  rotate_left
  · intro w'
    go_simp
    with_reducible rfl
  rotate_left
  · simp only [Act.put, List.setIfInBounds_toArray, List.set_cons_zero, List.set_cons_succ, i64_w, i32_w]
    rfl
  refine pure_ (i := 14) (N := some 33) (v := ?_) (a' := ?_) #[true, true, true, true, true, true, true, true, true, true, true, true, true, true, true, false, false, false, false, false, false, false, false, false, false, false, false, false, false, false, false, false, false, false, false, false, false, false, false] rfl rfl (by kernel_rfl) (fun _ _ _ h => h) (Or.inl ⟨by rfl, ?_⟩) ?_ ?_
  rotate_left
  · intro w'
    go_simp
    with_reducible rfl
  rotate_left
  · simp only [Act.put, List.setIfInBounds_toArray, List.set_cons_zero, List.set_cons_succ, i64_w, i32_w]
    rfl
  refine pure_ (i := 15) (N := some 34) (v := ?_) (a' := ?_) #[true, true, true, true, true, true, true, true, true, true, true, true, true, true, true, true, false, false, false, false, false, false, false, false, false, false, false, false, false, false, false, false, false, false, false, false, false, false, false] rfl rfl (by kernel_rfl) (fun _ _ _ h => h) (Or.inl ⟨by rfl, ?_⟩) ?_ ?_
  rotate_left
  · intro w'
    go_simp
    with_reducible rfl
  rotate_left
  · simp only [Act.put, List.setIfInBounds_toArray, List.set_cons_zero, List.set_cons_succ, i64_w, i32_w]
    rfl
  refine take_ (i := 16) (N := some 35) (v := ?_) (a' := ?_) #[true, true, true, true, true, true, true, true, true, true, true, true, true, true, true, true, true, false, false, false, false, false, false, false, false, false, false, false, false, false, false, false, false, false, false, false, false, false, false] rfl rfl (by kernel_rfl) (fun _ _ _ h => h) (Or.inl ⟨by rfl, ?_⟩) hHeld ?_ ?_
  rotate_left
  · rintro w' ⟨s0, s1, s2, s3, s4, s5, s6, s7, s8, s9, s10⟩
    go_simp
    with_reducible rfl
  rotate_left
  · simp only [Act.put, List.setIfInBounds_toArray, List.set_cons_zero, List.set_cons_succ, i64_w, i32_w]
    rfl
  refine pure_ (i := 17) (N := some 36) (v := ?_) (a' := ?_) #[true, true, true, true, true, true, true, true, true, true, true, true, true, true, true, true, true, true, false, false, false, false, false, false, false, false, false, false, false, false, false, false, false, false, false, false, false, false, false] rfl rfl (by kernel_rfl) (fun _ _ _ h => h) (Or.inl ⟨by rfl, ?_⟩) ?_ ?_
  rotate_left
  · intro w'
    go_simp
    with_reducible rfl
  rotate_left
  · simp only [Act.put, List.setIfInBounds_toArray, List.set_cons_zero, List.set_cons_succ, i64_w, i32_w]
    rfl
  refine pure_ (i := 18) (N := some 37) (v := ?_) (a' := ?_) #[true, true, true, true, true, true, true, true, true, true, true, true, true, true, true, true, true, true, true, false, false, false, false, false, false, false, false, false, false, false, false, false, false, false, false, false, false, false, false] rfl rfl (by kernel_rfl) (fun _ _ _ h => h) (Or.inl ⟨by rfl, ?_⟩) ?_ ?_
  rotate_left
  · intro w'
    go_simp
    with_reducible rfl
  rotate_left
  · simp only [Act.put, List.setIfInBounds_toArray, List.set_cons_zero, List.set_cons_succ, i64_w, i32_w]
    rfl
  refine pure_ (i := 19) (N := some 38) (v := ?_) (a' := ?_) #[true, true, true, true, true, true, true, true, true, true, true, true, true, true, true, true, true, true, true, true, false, false, false, false, false, false, false, false, false, false, false, false, false, false, false, false, false, false, false] rfl rfl (by kernel_rfl) (fun _ _ _ h => h) (Or.inl ⟨by rfl, ?_⟩) ?_ ?_
  rotate_left
  · intro w'
    go_simp
    with_reducible rfl
  rotate_left
  · simp only [Act.put, List.setIfInBounds_toArray, List.set_cons_zero, List.set_cons_succ, i64_w, i32_w]
    rfl
  refine pure_ (i := 20) (N := some 39) (v := ?_) (a' := ?_) #[true, true, true, true, true, true, true, true, true, true, true, true, true, true, true, true, true, true, true, true, true, false, false, false, false, false, false, false, false, false, false, false, false, false, false, false, false, false, false] rfl rfl (by kernel_rfl) (fun _ _ _ h => h) (Or.inl ⟨by rfl, ?_⟩) ?_ ?_
  rotate_left
  · intro w'
    go_simp
    with_reducible rfl
  rotate_left
  · simp only [Act.put, List.setIfInBounds_toArray, List.set_cons_zero, List.set_cons_succ, i64_w, i32_w]
    rfl
  refine take_ (i := 21) (N := some 40) (v := ?_) (a' := ?_) #[true, true, true, true, true, true, true, true, true, true, true, true, true, true, true, true, true, true, true, true, true, true, false, false, false, false, false, false, false, false, false, false, false, false, false, false, false, false, false] rfl rfl (by kernel_rfl) (fun _ _ _ h => h) (Or.inl ⟨by rfl, ?_⟩) hHeld ?_ ?_
  rotate_left
  · rintro w' ⟨s0, s1, s2, s3, s4, s5, s6, s7, s8, s9, s10⟩
    go_simp
    with_reducible rfl
  rotate_left
  · simp only [Act.put, List.setIfInBounds_toArray, List.set_cons_zero, List.set_cons_succ, i64_w, i32_w]
    rfl
  refine one_ (i := 22) (N := some 41) #[true, true, true, true, true, true, true, true, true, true, true, true, true, true, true, true, true, true, true, true, true, true, true, false, false, false, false, false, false, false, false, false, false, false, false, false, false, false, false] rfl rfl (by kernel_rfl) (by decide) (fun K hK => ?_)
  refine goes_ Try.func34 (by kernel_rfl) rfl #[Value.agg #[.int .i64 1, .int .i64 2, .int .i64 0, .int .i64 1, .int .i64 2, .slice (some ⟨w.heap.size + 1 + 1, 0, none⟩) 2 2, .slice (some ⟨w.heap.size + 1 + 1 + 1, 0, none⟩) 3 4], .int .i64 0] (by rfl) rfl rfl (by simp only [List.map_toArray, List.map_cons, List.map_nil]; rfl) ?_
  with_reducible refine (aw_long w.heap.size _ RA.out).mono ?_
  rintro e w12 ⟨rfl, hb⟩
  refine ⟨_, rfl, ?_⟩
  have T4 := Aside0.mk (blk_below R4.out hb)
  have TF := Aside0.mk (blk_below RF.out hb)
  have TT := Aside0.mk (blk_below RT.out hb)
  have TA := Aside0.mk (RA.out.below hb)
  have TB := Aside0.mk (below_step RB.out hb)
  clear hb
  refine hK.out _ _ ⟨(blk_cell T4.out 0).trans rfl, (blk_cell T4.out 1).trans rfl, (blk_cell T4.out 2).trans rfl, (blk_cell T4.out 3).trans rfl, (blk_cell T4.out 4).trans rfl, (blk_cell T4.out 5).trans rfl, (blk_cell T4.out 6).trans rfl, (blk_cell TF.out 0).trans rfl, (blk_cell TF.out 1).trans rfl, (blk_cell TF.out 2).trans rfl, (blk_cell TT.out 6).trans rfl⟩ (fun hHeld => ?_)
  clear hK K
  refine norm_ (a' := ?_) ?_ ?_
  rotate_left
  · show Act.put _ (some 41) _ = _
    simp only [Act.put, List.setIfInBounds_toArray, List.set_cons_zero, List.set_cons_succ, i64_w, i32_w]
    rfl
  refine pure_ (i := 23) (N := some 42) (v := ?_) (a' := ?_) #[true, true, true, true, true, true, true, true, true, true, true, true, true, true, true, true, true, true, true, true, true, true, true, true, false, false, false, false, false, false, false, false, false, false, false, false, false, false, false] rfl rfl (by kernel_rfl) (fun _ _ _ h => h) (Or.inl ⟨by rfl, ?_⟩) ?_ ?_
  rotate_left
  · intro w'
    go_simp
    with_reducible rfl
  rotate_left
  · simp only [Act.put, List.setIfInBounds_toArray, List.set_cons_zero, List.set_cons_succ, i64_w, i32_w]
    rfl
  refine pure_ (i := 24) (N := some 43) (v := ?_) (a' := ?_) #[true, true, true, true, true, true, true, true, true, true, true, true, true, true, true, true, true, true, true, true, true, true, true, true, true, false, false, false, false, false, false, false, false, false, false, false, false, false, false] rfl rfl (by kernel_rfl) (fun _ _ _ h => h) (Or.inl ⟨by rfl, ?_⟩) ?_ ?_
  rotate_left
  · intro w'
    go_simp
    with_reducible rfl
  rotate_left
  · simp only [Act.put, List.setIfInBounds_toArray, List.set_cons_zero, List.set_cons_succ, i64_w, i32_w]
    rfl
  refine pure_ (i := 25) (N := some 44) (v := ?_) (a' := ?_) #[true, true, true, true, true, true, true, true, true, true, true, true, true, true, true, true, true, true, true, true, true, true, true, true, true, true, false, false, false, false, false, false, false, false, false, false, false, false, false] rfl rfl (by kernel_rfl) (fun _ _ _ h => h) (Or.inl ⟨by rfl, ?_⟩) ?_ ?_
  rotate_left
  · intro w'
    go_simp
    with_reducible rfl
  rotate_left
  · simp only [Act.put, List.setIfInBounds_toArray, List.set_cons_zero, List.set_cons_succ, i64_w, i32_w]
    rfl
  refine take_ (i := 26) (N := some 45) (v := ?_) (a' := ?_) #[true, true, true, true, true, true, true, true, true, true, true, true, true, true, true, true, true, true, true, true, true, true, true, true, true, true, true, false, false, false, false, false, false, false, false, false, false, false, false] rfl rfl (by kernel_rfl) (fun _ _ _ h => h) (Or.inl ⟨by rfl, ?_⟩) hHeld ?_ ?_
  rotate_left
  · rintro w' ⟨s0, s1, s2, s3, s4, s5, s6, s7, s8, s9, s10⟩
    go_simp
    with_reducible rfl
  rotate_left
  · simp only [Act.put, List.setIfInBounds_toArray, List.set_cons_zero, List.set_cons_succ, i64_w, i32_w]
    rfl
  refine one_ (i := 27) (N := some 46) #[true, true, true, true, true, true, true, true, true, true, true, true, true, true, true, true, true, true, true, true, true, true, true, true, true, true, true, true, false, false, false, false, false, false, false, false, false, false, false] rfl rfl (by kernel_rfl) (by decide) (fun K hK => ?_)
  refine goes_ Try.func30 (by kernel_rfl) rfl #[Value.agg #[.int .i64 1, .int .i64 2, .int .i64 0, .int .i64 1, .int .i64 2, .slice (some ⟨w.heap.size + 1 + 1, 0, none⟩) 2 2, .slice (some ⟨w.heap.size + 1 + 1 + 1, 0, none⟩) 3 4], .int .i64 0] (by rfl) rfl rfl (by simp only [List.map_toArray, List.map_cons, List.map_nil]; rfl) ?_
  with_reducible refine (aw_with w.heap.size _ TA.out).mono ?_
  rintro e w13 ⟨A1, n1, c1, A2, c2, rfl, hb⟩
  refine ⟨_, rfl, ?_⟩
  have U4 := Aside0.mk (blk_below T4.out hb)
  have UF := Aside0.mk (blk_below TF.out hb)
  have UT := Aside0.mk (blk_below TT.out hb)
  have UA := Aside0.mk (TA.out.below hb)
  have UB := Aside0.mk (below_step TB.out hb)
  have hfl : ∀ W, (Instr.field 49 (.agg #[.int .i64 1, .int .i64 2, .int .i64 0, .int .i64 1, .int .i64 2, .slice A1 n1 c1, .slice A2 1 c2]) 2).run Try.prog W = .ok (.slice A2 1 c2) W := fun _ => by kernel_rfl
  clear hb
  refine hK.out _ _ ⟨(blk_cell U4.out 0).trans rfl, (blk_cell U4.out 1).trans rfl, (blk_cell U4.out 2).trans rfl, (blk_cell U4.out 3).trans rfl, (blk_cell U4.out 4).trans rfl, (blk_cell U4.out 5).trans rfl, (blk_cell U4.out 6).trans rfl, (blk_cell UF.out 0).trans rfl, (blk_cell UF.out 1).trans rfl, (blk_cell UF.out 2).trans rfl, (blk_cell UT.out 6).trans rfl⟩ (fun hHeld => ?_)
  clear hK K
  refine norm_ (a' := ?_) ?_ ?_
  rotate_left
  · show Act.put _ (some 46) _ = _
    simp only [Act.put, List.setIfInBounds_toArray, List.set_cons_zero, List.set_cons_succ, i64_w, i32_w]
    rfl
  refine pure_ (i := 28) (N := some 47) (v := ?_) (a' := ?_) #[true, true, true, true, true, true, true, true, true, true, true, true, true, true, true, true, true, true, true, true, true, true, true, true, true, true, true, true, true, false, false, false, false, false, false, false, false, false, false] rfl rfl (by kernel_rfl) (fun _ _ _ h => h) (Or.inl ⟨by rfl, ?_⟩) ?_ ?_
  rotate_left
  · intro w'
    go_simp
    with_reducible rfl
  rotate_left
  · simp only [Act.put, List.setIfInBounds_toArray, List.set_cons_zero, List.set_cons_succ, i64_w, i32_w]
    rfl
  refine pure_ (i := 29) (N := some 48) (v := ?_) (a' := ?_) #[true, true, true, true, true, true, true, true, true, true, true, true, true, true, true, true, true, true, true, true, true, true, true, true, true, true, true, true, true, true, false, false, false, false, false, false, false, false, false] rfl rfl (by kernel_rfl) (fun _ _ _ h => h) (Or.inl ⟨by rfl, ?_⟩) ?_ ?_
  rotate_left
  · intro w'
    go_simp
    with_reducible rfl
  rotate_left
  · simp only [Act.put, List.setIfInBounds_toArray, List.set_cons_zero, List.set_cons_succ, i64_w, i32_w]
    rfl
  refine pure_ (i := 30) (N := some 49) (v := ?_) (a' := ?_) #[true, true, true, true, true, true, true, true, true, true, true, true, true, true, true, true, true, true, true, true, true, true, true, true, true, true, true, true, true, true, true, false, false, false, false, false, false, false, false] rfl rfl (by kernel_rfl) (fun _ _ _ h => h) (Or.inl ⟨by rfl, ?_⟩) ?_ ?_
  rotate_left
  · intro w'
    go_simp
    with_reducible rfl
  rotate_left
  · simp only [Act.put, List.setIfInBounds_toArray, List.set_cons_zero, List.set_cons_succ, i64_w, i32_w]
    rfl
  refine pure_ (i := 31) (N := some 50) (v := ?_) (a' := ?_) #[true, true, true, true, true, true, true, true, true, true, true, true, true, true, true, true, true, true, true, true, true, true, true, true, true, true, true, true, true, true, true, true, false, false, false, false, false, false, false] rfl rfl (by kernel_rfl) (fun _ _ _ h => h) (Or.inl ⟨by rfl, ?_⟩) ?_ ?_
  rotate_left
  · intro w'
    go_simp
    with_reducible rfl
  rotate_left
  · simp only [Act.put, List.setIfInBounds_toArray, List.set_cons_zero, List.set_cons_succ, i64_w, i32_w]
    rfl
  refine pure_ (i := 32) (N := some 51) (v := ?_) (a' := ?_) #[true, true, true, true, true, true, true, true, true, true, true, true, true, true, true, true, true, true, true, true, true, true, true, true, true, true, true, true, true, true, true, true, true, false, false, false, false, false, false] rfl rfl (by kernel_rfl) (fun _ _ _ h => h) (Or.inl ⟨by rfl, ?_⟩) ?_ ?_
  rotate_left
  · intro w'
    go_simp
    with_reducible rfl
  rotate_left
  · simp only [Act.put, List.setIfInBounds_toArray, List.set_cons_zero, List.set_cons_succ, i64_w, i32_w]
    rfl
  refine take_ (i := 33) (N := some 52) (v := ?_) (a' := ?_) #[true, true, true, true, true, true, true, true, true, true, true, true, true, true, true, true, true, true, true, true, true, true, true, true, true, true, true, true, true, true, true, true, true, true, false, false, false, false, false] rfl rfl (by kernel_rfl) (fun _ _ _ h => h) (Or.inl ⟨by rfl, ?_⟩) hHeld ?_ ?_
  rotate_left
  · rintro w' ⟨s0, s1, s2, s3, s4, s5, s6, s7, s8, s9, s10⟩
    go_simp
    with_reducible rfl
  rotate_left
  · simp only [Act.put, List.setIfInBounds_toArray, List.set_cons_zero, List.set_cons_succ, i64_w, i32_w]
    rfl
  refine take_ (i := 34) (N := some 53) (v := ?_) (a' := ?_) #[true, true, true, true, true, true, true, true, true, true, true, true, true, true, true, true, true, true, true, true, true, true, true, true, true, true, true, true, true, true, true, true, true, true, true, false, false, false, false] rfl rfl (by kernel_rfl) (fun _ _ _ h => h) (Or.inl ⟨by rfl, ?_⟩) hHeld ?_ ?_
  rotate_left
  · rintro w' ⟨s0, s1, s2, s3, s4, s5, s6, s7, s8, s9, s10⟩
    go_simp
    with_reducible rfl
  rotate_left
  · simp only [Act.put, List.setIfInBounds_toArray, List.set_cons_zero, List.set_cons_succ, i64_w, i32_w]
    rfl
  refine one_ (i := 35) (N := some 54) #[true, true, true, true, true, true, true, true, true, true, true, true, true, true, true, true, true, true, true, true, true, true, true, true, true, true, true, true, true, true, true, true, true, true, true, true, false, false, false] rfl rfl (by kernel_rfl) (by decide) (fun K hK => ?_)
  refine goes_ Try.func32 (by kernel_rfl) rfl #[Value.agg #[.int .i64 1, .int .i64 2, .int .i64 0, .int .i64 1, .int .i64 2, .slice (some ⟨w.heap.size + 1 + 1, 0, none⟩) 2 2, .slice (some ⟨w.heap.size + 1 + 1 + 1, 0, none⟩) 3 4]] (by rfl) rfl rfl (by simp only [List.map_toArray, List.map_cons, List.map_nil]; rfl) ?_
  with_reducible refine (aw_cp w.heap.size _ UA.out).mono ?_
  rintro e w14 ⟨A3, c3, A4, c4, rfl, X5, X6, X7, hb⟩
  refine ⟨_, rfl, ?_⟩
  have V4 := Aside0.mk (blk_below U4.out hb)
  have VF := Aside0.mk (blk_below UF.out hb)
  have VT := Aside0.mk (blk_below UT.out hb)
  have VA := Aside0.mk (UA.out.below hb)
  have VB := Aside0.mk (below_step UB.out hb)
  have Y5 := Aside0.mk X5
  have Y6 := Aside0.mk X6
  have Y7 := Aside0.mk X7
  clear hb X5 X6 X7
  refine hK.out _ _ ⟨(blk_cell V4.out 0).trans rfl, (blk_cell V4.out 1).trans rfl, (blk_cell V4.out 2).trans rfl, (blk_cell V4.out 3).trans rfl, (blk_cell V4.out 4).trans rfl, (blk_cell V4.out 5).trans rfl, (blk_cell V4.out 6).trans rfl, (blk_cell VF.out 0).trans rfl, (blk_cell VF.out 1).trans rfl, (blk_cell VF.out 2).trans rfl, (blk_cell VT.out 6).trans rfl⟩ (fun hHeld => ?_)
  clear hK K
  refine norm_ (a' := ?_) ?_ ?_
  rotate_left
  · show Act.put _ (some 54) _ = _
    simp only [Act.put, List.setIfInBounds_toArray, List.set_cons_zero, List.set_cons_succ, i64_w, i32_w]
    rfl
  refine one_ (i := 36) (N := some 55) #[true, true, true, true, true, true, true, true, true, true, true, true, true, true, true, true, true, true, true, true, true, true, true, true, true, true, true, true, true, true, true, true, true, true, true, true, true, false, false] rfl rfl (by kernel_rfl) (by decide) (fun K hK => ?_)
  refine goes_ Try.func22 (by kernel_rfl) rfl #[Value.agg #[.int .i64 1, .int .i64 2, .int .i64 0, .int .i64 1, .int .i64 2, .slice (some ⟨w.heap.size + 1 + 1, 0, none⟩) 2 2, .slice (some ⟨w.heap.size + 1 + 1 + 1, 0, none⟩) 3 4], Value.agg #[.int .i64 1, .int .i64 2, .int .i64 0, .int .i64 1, .int .i64 2, .slice A3 2 c3, .slice A4 3 c4]] (by rfl) rfl rfl (by simp only [List.map_toArray, List.map_cons, List.map_nil]; rfl) ?_
  with_reducible refine (aw_same w.heap.size _ VA.out A3 c3 A4 c4 Y5.out Y6.out Y7.out).mono ?_
  rintro e w15 ⟨rfl, hb⟩
  refine ⟨_, rfl, ?_⟩
  have X4 := Aside0.mk (blk_below V4.out hb)
  have XF := Aside0.mk (blk_below VF.out hb)
  have XT := Aside0.mk (blk_below VT.out hb)
  have XA := Aside0.mk (VA.out.below hb)
  have XB := Aside0.mk (below_step VB.out hb)
  clear hb
  refine hK.out _ _ ⟨(blk_cell X4.out 0).trans rfl, (blk_cell X4.out 1).trans rfl, (blk_cell X4.out 2).trans rfl, (blk_cell X4.out 3).trans rfl, (blk_cell X4.out 4).trans rfl, (blk_cell X4.out 5).trans rfl, (blk_cell X4.out 6).trans rfl, (blk_cell XF.out 0).trans rfl, (blk_cell XF.out 1).trans rfl, (blk_cell XF.out 2).trans rfl, (blk_cell XT.out 6).trans rfl⟩ (fun hHeld => ?_)
  clear hK K
  refine norm_ (a' := ?_) ?_ ?_
  rotate_left
  · show Act.put _ (some 55) _ = _
    simp only [Act.put, List.setIfInBounds_toArray, List.set_cons_zero, List.set_cons_succ, i64_w, i32_w]
    rfl
  refine pure_ (i := 37) (N := some 56) (v := ?_) (a' := ?_) #[true, true, true, true, true, true, true, true, true, true, true, true, true, true, true, true, true, true, true, true, true, true, true, true, true, true, true, true, true, true, true, true, true, true, true, true, true, true, false] rfl rfl (by kernel_rfl) (fun _ _ _ h => h) (Or.inl ⟨by rfl, ?_⟩) ?_ ?_
  rotate_left
  · intro w'
    go_simp
    with_reducible rfl
  rotate_left
  · simp only [Act.put, List.setIfInBounds_toArray, List.set_cons_zero, List.set_cons_succ, i64_w, i32_w]
    rfl
  refine pure_ (i := 38) (N := some 0) (v := ?_) (a' := ?_) #[true, true, true, true, true, true, true, true, true, true, true, true, true, true, true, true, true, true, true, true, true, true, true, true, true, true, true, true, true, true, true, true, true, true, true, true, true, true, true] rfl rfl (by kernel_rfl) (fun _ _ _ h => h) (Or.inl ⟨by rfl, ?_⟩) ?_ ?_
  rotate_left
  · intro w'
    go_simp
    with_reducible rfl
  rotate_left
  · simp only [Act.put, List.setIfInBounds_toArray, List.set_cons_zero, List.set_cons_succ, i64_w, i32_w]
    rfl
  refine done_ (by kernel_rfl) ?_
  go_wp2_with fail
  go_ret
  exact ⟨rfl, XB.out⟩
end Go.Proofs.Ytcphmelmieedfaa.PScriptTurns

