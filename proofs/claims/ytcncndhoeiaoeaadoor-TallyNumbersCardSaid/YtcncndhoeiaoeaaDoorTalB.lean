/-
A tally as a row of numbers; one without another one.
-/
import Derived.Test.YtcncndhoeiaoeaaDoorTalA
namespace Go.Proofs.YtcncndhoeiaoeaaDoor.PTallyExact
open Go Go.RowKit Go.Proofs.YtcncndhoeiaoeaaDoorW.PrintWords Go.Proofs.YtcncndhoeiaoeaaDoorW.PrintLast Go.Proofs.YtcncndhoeiaoeaaDoorW.PrintMore
attribute [local go_sem] max2_int min2_int max_two min_two max_three min_three max_four min_four
set_option linter.unusedVariables false
set_option linter.unusedSimpArgs false
def TV (l : List Int) : Array Value := (l.map (fun x => Value.int .i64 x)).toArray
def zero64 : List Int := List.replicate 64 0
theorem TV_size (l : List Int) : (TV l).size = l.length := by simp [TV]
theorem TV_zero : TV zero64 = #[.int .i64 0, .int .i64 0, .int .i64 0, .int .i64 0, .int .i64 0, .int .i64 0, .int .i64 0, .int .i64 0, .int .i64 0, .int .i64 0, .int .i64 0, .int .i64 0, .int .i64 0, .int .i64 0, .int .i64 0, .int .i64 0, .int .i64 0, .int .i64 0, .int .i64 0, .int .i64 0, .int .i64 0, .int .i64 0, .int .i64 0, .int .i64 0, .int .i64 0, .int .i64 0, .int .i64 0, .int .i64 0, .int .i64 0, .int .i64 0, .int .i64 0, .int .i64 0, .int .i64 0, .int .i64 0, .int .i64 0, .int .i64 0, .int .i64 0, .int .i64 0, .int .i64 0, .int .i64 0, .int .i64 0, .int .i64 0, .int .i64 0, .int .i64 0, .int .i64 0, .int .i64 0, .int .i64 0, .int .i64 0, .int .i64 0, .int .i64 0, .int .i64 0, .int .i64 0, .int .i64 0, .int .i64 0, .int .i64 0, .int .i64 0, .int .i64 0, .int .i64 0, .int .i64 0, .int .i64 0, .int .i64 0, .int .i64 0, .int .i64 0, .int .i64 0] := rfl
theorem TV_get (l : List Int) (i : Nat) (h : i < l.length) : (TV l)[i]? = some (.int .i64 (l.getD i 0)) := by
  simp [TV, List.getD_eq_getElem?_getD, h]
theorem TV_set (l : List Int) (i : Nat) (x : Int) : (TV l).setIfInBounds i (.int .i64 x) = TV (l.set i x) := by
  simp [TV, List.map_set]
theorem TV_one (l : List Int) : ∀ q ∈ (TV l).toList, q.oneCell' = true := by
  intro q hq
  simp only [TV, List.toList_toArray, List.mem_map] at hq
  obtain ⟨x, _, rfl⟩ := hq
  rfl
theorem info51 (l : List Int) (h : l.length = 64) : (Tryd.prog.info? 51).map (·.size) = some (TV l).size := by rw [TV_size, h]; kernel_rfl
theorem tot51 (l : List Int) (h : l.length = 64) : (Tryd.prog.info? 51).map (·.size) = some (TV l).toList.length := by rw [Array.length_toList, TV_size, h]; kernel_rfl
theorem onlyp : ∀ q, q ∈ 87 :: kp.E → q = 87 := by
  intro q hq
  simpa [kp, Kd.scalar] using hq
theorem row_farp {W W1 : World} {B g t : Nat} {cs : Array Value} {v : Value} {xs : List (Nat × Nat)} {ok : Nat → Prop} (h : kp.R 87 W B ok v xs) (hb : W.heap[g]? = some (.cells cs t (0, 0))) (ht : 87 ≠ t) (h3 : ∀ k, k ≠ g → W1.heap[k]? = W.heap[k]?) : kp.R 87 W1 B ok v xs :=
  Kd.R_mono (Kd.R_step (Kd.R_types h hb (fun q hq => by rw [onlyp q hq]; exact ht)) (fun k ho _ => h3 k ho.2)) (fun _ hk => hk.1)
theorem at_p {W : World} {B c g : Nat} {A : Option Addr} {ok : Nat → Prop} (h : kp.R 87 W B ok (.slice A 64 c) ((List.range 64).map (fun i => (g, i)))) (i : Int) (h0 : 0 ≤ i) (h1 : i < 64) : ∃ ad, A = some ad ∧ W.cell? (ad.add i.toNat) = some (.pointer (some ⟨g, i.toNat, none⟩)) := by
  have hC := (Kd.R_reads' h).2.2
  obtain ⟨ad, c, e, _, hK, hc0⟩ := Kd.C_get hC (0, 0) i h0 (by simp; omega)
  have hK2 : c = [pV (((List.range 64).map (fun i => (g, i))).getD i.toNat (0, 0))] := hK
  subst hK2
  have h2 : W.cell? (ad.add (i.toNat * 1 + 0)) = some (pV (((List.range 64).map (fun i => (g, i))).getD i.toNat (0, 0))) := hc0 0 _ rfl
  rw [Nat.mul_one, Nat.add_zero] at h2
  have h3 : ((List.range 64).map (fun i => (g, i))).getD i.toNat (0, 0) = (g, i.toNat) := by
    have hl : i.toNat < 64 := by omega
    simp [List.getD_eq_getElem?_getD, hl]
  rw [h3] at h2
  exact ⟨ad, e, h2⟩
/-- One tally without another one, number by number. -/
def subL (a b : List Int) : List Int := List.zipWith (fun x y => wrap64 (x - y)) a b
def subN (a b : List Int) (i : Nat) : List Int := (subL a b).take i ++ List.replicate (64 - i) 0
theorem subL_len {a b : List Int} (ha : a.length = 64) (hb : b.length = 64) : (subL a b).length = 64 := by simp [subL, ha, hb]
theorem subN_len {a b : List Int} (ha : a.length = 64) (hb : b.length = 64) (i : Nat) (hi : i ≤ 64) : (subN a b i).length = 64 := by
  have := subL_len ha hb
  simp [subN]; omega
theorem subN_step {a b : List Int} (ha : a.length = 64) (hb : b.length = 64) (i : Nat) (hi : i < 64) : (subN a b i).set i (wrap64 (a.getD i 0 - b.getD i 0)) = subN a b (i + 1) := by
  have hl := subL_len ha hb
  have hx : (subL a b)[i]'(by omega) = wrap64 (a.getD i 0 - b.getD i 0) := by
    simp [subL, List.getD_eq_getElem?_getD, ha, hb, hi]
  unfold subN
  rw [show 64 - i = (64 - (i + 1)) + 1 by omega, List.replicate_succ, List.set_append_right _ _ (by simp; omega)]
  rw [show i - ((subL a b).take i).length = 0 by simp; omega, List.set_cons_zero, List.take_succ_eq_append_getElem (by omega), hx, List.append_assoc]
  rfl
theorem results_cell2 {P : Program} {fn : Func} {p q : Tmp} {ty : TypeId} (h : fn.results = #[.cell p ty, .tmp q]) (tmps : Array Value) (w : World) (g : Nat) (t : TypeId) (cs : Array Value) (fr : Nat × Nat) (d : TypeDesc)
    (hp : tmps.getD p undef = .pointer (some ⟨g, 0, none⟩)) (hg : w.heap[g]? = some (.cells cs t fr))
    (hu : P.underlying ty = some d) (hd : (match d with | .struct _ | .array _ _ => true | _ => false) = true) (hi : (P.info? ty).map (·.size) = some cs.size) {v : Value} (hq : tmps.getD q undef = v) :
    (results fn tmps).run P w = .ok (.tuple #[.agg cs, v]) w := by
  have hp' : tmps[p]?.getD undef = .pointer (some ⟨g, 0, none⟩) := by simpa using hp
  have hq' : tmps[q]?.getD undef = v := by simpa using hq
  simp [results, h, hp', hq', asAddr, run_loadVar_row w g t ty cs fr d hg hu hd hi]
def lessV (a b : List Int) : List Int × Bool := if (subL a b).all (fun x => decide (0 ≤ x)) = true then (subL a b, true) else (zero64, false)
theorem subN_0 (a b : List Int) : subN a b 0 = zero64 := by unfold subN zero64; simp
theorem subN_64 {a b : List Int} (ha : a.length = 64) (hb : b.length = 64) : subN a b 64 = subL a b := by
  unfold subN; rw [List.take_of_length_le (by rw [subL_len ha hb]; exact Nat.le_refl _)]; simp
theorem sub_at {a b : List Int} (ha : a.length = 64) (hb : b.length = 64) (i : Nat) (hi : i < 64) : (subL a b).getD i 0 = wrap64 (a.getD i 0 - b.getD i 0) := by
  simp [subL, List.getD_eq_getElem?_getD, ha, hb, hi]
theorem skip_cell {P : Program} {ops : Array Oper} {Q : Exit → Act → World → Prop} {oi : Oper} {a : Act} {w W : World} {K : Act → World → Prop} (t : TypeId) (p x : Operand) (hw : Region.wanted oi (yielded ops a.tmps) = true) (hN : oi.dst = none) (ho : oi.op = .store t p x) {g e : Nat} {cur : Array Value} (i : Nat)
    (haddr : a.eval p = .pointer (some ⟨g, i, none⟩)) (u : Value) (hx : a.eval x = u) (hu : u.cells.toList = [u]) (ht : (P.info? t).map (·.size) = some 1) (h1 : u.oneCell' = true) (hh : W.heap[g]? = some (.cells cur e (0, 0))) (hi : i < cur.size) (hg : w.heap.size ≤ g) (HB : Below w.heap.size w W)
    (h : ∀ w1, w1.heap[g]? = some (.cells (cur.setIfInBounds i u) e (0, 0)) → Below w.heap.size w w1 → (∀ k, k ≠ g → w1.heap[k]? = W.heap[k]?) → K a w1) : if Region.wanted oi (yielded ops a.tmps) = true then Oper.wp P oi a W K Q else K (a.put none undef) W := by
  have hrun : (Instr.storeAt t (.pointer (some ⟨g, i, none⟩)) u).run P W = .ok () (W.setCells g i [u]) := run_store_run t u [u] hh hu (by simpa using ht) (by simp; omega) (fun q hq => by rw [List.mem_singleton.1 hq]; exact h1)
  have he : W.setCells g i [u] = W.setCell ⟨g, i, none⟩ u := rfl
  rw [he] at hrun
  refine skip_ (w1 := W.setCell ⟨g, i, none⟩ u) hw hN ?_ (h _ (blk_set hh i u) (below_set HB hg) (fun k hk => Below.heap_setCell W ⟨g, i, none⟩ u k hk))
  unfold execOp
  simp only [ho, haddr, hx, Sem.run_bind, Sem.run_pure, Result.andThen_ok, hrun]
theorem setN_get {l m : List Int} {i : Nat} {x : Int} (h : l.set i x = m) (hi : i < l.length) : (TV m)[i]? = some (.int .i64 x) := by
  subst h
  have := TV_get (l.set i x) i (by simpa using hi)
  rw [this, List.getD_eq_getElem?_getD, List.getElem?_set_self hi]
  rfl
theorem row_setp {W : World} {B g t j : Nat} {u : Value} {cs : Array Value} {v : Value} {xs : List (Nat × Nat)} {ok : Nat → Prop} (h : kp.R 87 W B ok v xs) (hb : W.heap[g]? = some (.cells cs t (0, 0))) (ht : 87 ≠ t) : kp.R 87 (W.setCell ⟨g, j, none⟩ u) B ok v xs :=
  Kd.R_set h hb (fun q hq => by rw [onlyp q hq]; exact ht) j u
def dummy_ : Unit := ()
set_option maxHeartbeats 16000000 in
set_option maxRecDepth 100000 in
theorem less_T (a b : List Int) (w : World) (ha : a.length = 64) (hb : b.length = 64) :
    Calls Tryd.prog 36 #[.agg (TV a), .agg (TV b)] w fun e w' => e = .returned (.tuple #[.agg (TV (lessV a b).1), .bool (lessV a b).2]) ∧ Below w.heap.size w w' := by
  have hu51 := Tryd.underlying51
  have hu85 := Tryd.underlying85
  have hu87 := Tryd.underlying87
  have HA := Aside0.mk ha
  have HBB := Aside0.mk hb
  clear ha hb
  have L_A := Aside0.mk (show w.heap.size ≤ w.heap.size from Nat.le_refl _)
  have L_B := Aside0.mk (show w.heap.size ≤ w.heap.size + 1 from by have := L_A.out; omega)
  have NE_A_B := Aside0.mk (show w.heap.size ≠ w.heap.size + 1 by omega)
  have L_X := Aside0.mk (show w.heap.size ≤ w.heap.size + 1 + 1 from by have := L_A.out; omega)
  have NE_A_X := Aside0.mk (show w.heap.size ≠ w.heap.size + 1 + 1 by omega)
  have NE_B_X := Aside0.mk (show w.heap.size + 1 ≠ w.heap.size + 1 + 1 by omega)
  have L_O := Aside0.mk (show w.heap.size ≤ w.heap.size + 1 + 1 + 1 from by have := L_A.out; omega)
  have NE_A_O := Aside0.mk (show w.heap.size ≠ w.heap.size + 1 + 1 + 1 by omega)
  have NE_B_O := Aside0.mk (show w.heap.size + 1 ≠ w.heap.size + 1 + 1 + 1 by omega)
  have NE_X_O := Aside0.mk (show w.heap.size + 1 + 1 ≠ w.heap.size + 1 + 1 + 1 by omega)
  have A_1 := Aside0.mk (blk_alloc (blk_alloc (blk_alloc (blk_new (w) (.cells (TV a) 51)) (.cells (TV b) 51)) (.cells #[.int .i64 0, .int .i64 0, .int .i64 0, .int .i64 0, .int .i64 0, .int .i64 0, .int .i64 0, .int .i64 0, .int .i64 0, .int .i64 0, .int .i64 0, .int .i64 0, .int .i64 0, .int .i64 0, .int .i64 0, .int .i64 0, .int .i64 0, .int .i64 0, .int .i64 0, .int .i64 0, .int .i64 0, .int .i64 0, .int .i64 0, .int .i64 0, .int .i64 0, .int .i64 0, .int .i64 0, .int .i64 0, .int .i64 0, .int .i64 0, .int .i64 0, .int .i64 0, .int .i64 0, .int .i64 0, .int .i64 0, .int .i64 0, .int .i64 0, .int .i64 0, .int .i64 0, .int .i64 0, .int .i64 0, .int .i64 0, .int .i64 0, .int .i64 0, .int .i64 0, .int .i64 0, .int .i64 0, .int .i64 0, .int .i64 0, .int .i64 0, .int .i64 0, .int .i64 0, .int .i64 0, .int .i64 0, .int .i64 0, .int .i64 0, .int .i64 0, .int .i64 0, .int .i64 0, .int .i64 0, .int .i64 0, .int .i64 0, .int .i64 0, .int .i64 0] 51)) (.cells #[.int .i64 0, .int .i64 0, .int .i64 0, .int .i64 0, .int .i64 0, .int .i64 0, .int .i64 0, .int .i64 0, .int .i64 0, .int .i64 0, .int .i64 0, .int .i64 0, .int .i64 0, .int .i64 0, .int .i64 0, .int .i64 0, .int .i64 0, .int .i64 0, .int .i64 0, .int .i64 0, .int .i64 0, .int .i64 0, .int .i64 0, .int .i64 0, .int .i64 0, .int .i64 0, .int .i64 0, .int .i64 0, .int .i64 0, .int .i64 0, .int .i64 0, .int .i64 0, .int .i64 0, .int .i64 0, .int .i64 0, .int .i64 0, .int .i64 0, .int .i64 0, .int .i64 0, .int .i64 0, .int .i64 0, .int .i64 0, .int .i64 0, .int .i64 0, .int .i64 0, .int .i64 0, .int .i64 0, .int .i64 0, .int .i64 0, .int .i64 0, .int .i64 0, .int .i64 0, .int .i64 0, .int .i64 0, .int .i64 0, .int .i64 0, .int .i64 0, .int .i64 0, .int .i64 0, .int .i64 0, .int .i64 0, .int .i64 0, .int .i64 0, .int .i64 0] 51))
  have B_2 := Aside0.mk (blk_alloc (blk_alloc (blk_new2 (w) (.cells (TV a) 51) (.cells (TV b) 51)) (.cells #[.int .i64 0, .int .i64 0, .int .i64 0, .int .i64 0, .int .i64 0, .int .i64 0, .int .i64 0, .int .i64 0, .int .i64 0, .int .i64 0, .int .i64 0, .int .i64 0, .int .i64 0, .int .i64 0, .int .i64 0, .int .i64 0, .int .i64 0, .int .i64 0, .int .i64 0, .int .i64 0, .int .i64 0, .int .i64 0, .int .i64 0, .int .i64 0, .int .i64 0, .int .i64 0, .int .i64 0, .int .i64 0, .int .i64 0, .int .i64 0, .int .i64 0, .int .i64 0, .int .i64 0, .int .i64 0, .int .i64 0, .int .i64 0, .int .i64 0, .int .i64 0, .int .i64 0, .int .i64 0, .int .i64 0, .int .i64 0, .int .i64 0, .int .i64 0, .int .i64 0, .int .i64 0, .int .i64 0, .int .i64 0, .int .i64 0, .int .i64 0, .int .i64 0, .int .i64 0, .int .i64 0, .int .i64 0, .int .i64 0, .int .i64 0, .int .i64 0, .int .i64 0, .int .i64 0, .int .i64 0, .int .i64 0, .int .i64 0, .int .i64 0, .int .i64 0] 51)) (.cells #[.int .i64 0, .int .i64 0, .int .i64 0, .int .i64 0, .int .i64 0, .int .i64 0, .int .i64 0, .int .i64 0, .int .i64 0, .int .i64 0, .int .i64 0, .int .i64 0, .int .i64 0, .int .i64 0, .int .i64 0, .int .i64 0, .int .i64 0, .int .i64 0, .int .i64 0, .int .i64 0, .int .i64 0, .int .i64 0, .int .i64 0, .int .i64 0, .int .i64 0, .int .i64 0, .int .i64 0, .int .i64 0, .int .i64 0, .int .i64 0, .int .i64 0, .int .i64 0, .int .i64 0, .int .i64 0, .int .i64 0, .int .i64 0, .int .i64 0, .int .i64 0, .int .i64 0, .int .i64 0, .int .i64 0, .int .i64 0, .int .i64 0, .int .i64 0, .int .i64 0, .int .i64 0, .int .i64 0, .int .i64 0, .int .i64 0, .int .i64 0, .int .i64 0, .int .i64 0, .int .i64 0, .int .i64 0, .int .i64 0, .int .i64 0, .int .i64 0, .int .i64 0, .int .i64 0, .int .i64 0, .int .i64 0, .int .i64 0, .int .i64 0, .int .i64 0] 51))
  have X_3 := Aside0.mk (blk_alloc (blk_new3 (w) (.cells (TV a) 51) (.cells (TV b) 51) (.cells #[.int .i64 0, .int .i64 0, .int .i64 0, .int .i64 0, .int .i64 0, .int .i64 0, .int .i64 0, .int .i64 0, .int .i64 0, .int .i64 0, .int .i64 0, .int .i64 0, .int .i64 0, .int .i64 0, .int .i64 0, .int .i64 0, .int .i64 0, .int .i64 0, .int .i64 0, .int .i64 0, .int .i64 0, .int .i64 0, .int .i64 0, .int .i64 0, .int .i64 0, .int .i64 0, .int .i64 0, .int .i64 0, .int .i64 0, .int .i64 0, .int .i64 0, .int .i64 0, .int .i64 0, .int .i64 0, .int .i64 0, .int .i64 0, .int .i64 0, .int .i64 0, .int .i64 0, .int .i64 0, .int .i64 0, .int .i64 0, .int .i64 0, .int .i64 0, .int .i64 0, .int .i64 0, .int .i64 0, .int .i64 0, .int .i64 0, .int .i64 0, .int .i64 0, .int .i64 0, .int .i64 0, .int .i64 0, .int .i64 0, .int .i64 0, .int .i64 0, .int .i64 0, .int .i64 0, .int .i64 0, .int .i64 0, .int .i64 0, .int .i64 0, .int .i64 0] 51)) (.cells #[.int .i64 0, .int .i64 0, .int .i64 0, .int .i64 0, .int .i64 0, .int .i64 0, .int .i64 0, .int .i64 0, .int .i64 0, .int .i64 0, .int .i64 0, .int .i64 0, .int .i64 0, .int .i64 0, .int .i64 0, .int .i64 0, .int .i64 0, .int .i64 0, .int .i64 0, .int .i64 0, .int .i64 0, .int .i64 0, .int .i64 0, .int .i64 0, .int .i64 0, .int .i64 0, .int .i64 0, .int .i64 0, .int .i64 0, .int .i64 0, .int .i64 0, .int .i64 0, .int .i64 0, .int .i64 0, .int .i64 0, .int .i64 0, .int .i64 0, .int .i64 0, .int .i64 0, .int .i64 0, .int .i64 0, .int .i64 0, .int .i64 0, .int .i64 0, .int .i64 0, .int .i64 0, .int .i64 0, .int .i64 0, .int .i64 0, .int .i64 0, .int .i64 0, .int .i64 0, .int .i64 0, .int .i64 0, .int .i64 0, .int .i64 0, .int .i64 0, .int .i64 0, .int .i64 0, .int .i64 0, .int .i64 0, .int .i64 0, .int .i64 0, .int .i64 0] 51))
  have O_4 := Aside0.mk (blk_new4 (w) (.cells (TV a) 51) (.cells (TV b) 51) (.cells #[.int .i64 0, .int .i64 0, .int .i64 0, .int .i64 0, .int .i64 0, .int .i64 0, .int .i64 0, .int .i64 0, .int .i64 0, .int .i64 0, .int .i64 0, .int .i64 0, .int .i64 0, .int .i64 0, .int .i64 0, .int .i64 0, .int .i64 0, .int .i64 0, .int .i64 0, .int .i64 0, .int .i64 0, .int .i64 0, .int .i64 0, .int .i64 0, .int .i64 0, .int .i64 0, .int .i64 0, .int .i64 0, .int .i64 0, .int .i64 0, .int .i64 0, .int .i64 0, .int .i64 0, .int .i64 0, .int .i64 0, .int .i64 0, .int .i64 0, .int .i64 0, .int .i64 0, .int .i64 0, .int .i64 0, .int .i64 0, .int .i64 0, .int .i64 0, .int .i64 0, .int .i64 0, .int .i64 0, .int .i64 0, .int .i64 0, .int .i64 0, .int .i64 0, .int .i64 0, .int .i64 0, .int .i64 0, .int .i64 0, .int .i64 0, .int .i64 0, .int .i64 0, .int .i64 0, .int .i64 0, .int .i64 0, .int .i64 0, .int .i64 0, .int .i64 0] 51) (.cells #[.int .i64 0, .int .i64 0, .int .i64 0, .int .i64 0, .int .i64 0, .int .i64 0, .int .i64 0, .int .i64 0, .int .i64 0, .int .i64 0, .int .i64 0, .int .i64 0, .int .i64 0, .int .i64 0, .int .i64 0, .int .i64 0, .int .i64 0, .int .i64 0, .int .i64 0, .int .i64 0, .int .i64 0, .int .i64 0, .int .i64 0, .int .i64 0, .int .i64 0, .int .i64 0, .int .i64 0, .int .i64 0, .int .i64 0, .int .i64 0, .int .i64 0, .int .i64 0, .int .i64 0, .int .i64 0, .int .i64 0, .int .i64 0, .int .i64 0, .int .i64 0, .int .i64 0, .int .i64 0, .int .i64 0, .int .i64 0, .int .i64 0, .int .i64 0, .int .i64 0, .int .i64 0, .int .i64 0, .int .i64 0, .int .i64 0, .int .i64 0, .int .i64 0, .int .i64 0, .int .i64 0, .int .i64 0, .int .i64 0, .int .i64 0, .int .i64 0, .int .i64 0, .int .i64 0, .int .i64 0, .int .i64 0, .int .i64 0, .int .i64 0, .int .i64 0] 51))
  have B5 := Aside0.mk (below_alloc (below_alloc (below_alloc (below_alloc (Below.refl w.heap.size w) (.cells (TV a) 51)) (.cells (TV b) 51)) (.cells #[.int .i64 0, .int .i64 0, .int .i64 0, .int .i64 0, .int .i64 0, .int .i64 0, .int .i64 0, .int .i64 0, .int .i64 0, .int .i64 0, .int .i64 0, .int .i64 0, .int .i64 0, .int .i64 0, .int .i64 0, .int .i64 0, .int .i64 0, .int .i64 0, .int .i64 0, .int .i64 0, .int .i64 0, .int .i64 0, .int .i64 0, .int .i64 0, .int .i64 0, .int .i64 0, .int .i64 0, .int .i64 0, .int .i64 0, .int .i64 0, .int .i64 0, .int .i64 0, .int .i64 0, .int .i64 0, .int .i64 0, .int .i64 0, .int .i64 0, .int .i64 0, .int .i64 0, .int .i64 0, .int .i64 0, .int .i64 0, .int .i64 0, .int .i64 0, .int .i64 0, .int .i64 0, .int .i64 0, .int .i64 0, .int .i64 0, .int .i64 0, .int .i64 0, .int .i64 0, .int .i64 0, .int .i64 0, .int .i64 0, .int .i64 0, .int .i64 0, .int .i64 0, .int .i64 0, .int .i64 0, .int .i64 0, .int .i64 0, .int .i64 0, .int .i64 0] 51)) (.cells #[.int .i64 0, .int .i64 0, .int .i64 0, .int .i64 0, .int .i64 0, .int .i64 0, .int .i64 0, .int .i64 0, .int .i64 0, .int .i64 0, .int .i64 0, .int .i64 0, .int .i64 0, .int .i64 0, .int .i64 0, .int .i64 0, .int .i64 0, .int .i64 0, .int .i64 0, .int .i64 0, .int .i64 0, .int .i64 0, .int .i64 0, .int .i64 0, .int .i64 0, .int .i64 0, .int .i64 0, .int .i64 0, .int .i64 0, .int .i64 0, .int .i64 0, .int .i64 0, .int .i64 0, .int .i64 0, .int .i64 0, .int .i64 0, .int .i64 0, .int .i64 0, .int .i64 0, .int .i64 0, .int .i64 0, .int .i64 0, .int .i64 0, .int .i64 0, .int .i64 0, .int .i64 0, .int .i64 0, .int .i64 0, .int .i64 0, .int .i64 0, .int .i64 0, .int .i64 0, .int .i64 0, .int .i64 0, .int .i64 0, .int .i64 0, .int .i64 0, .int .i64 0, .int .i64 0, .int .i64 0, .int .i64 0, .int .i64 0, .int .i64 0, .int .i64 0] 51))
  go_enter Tryd.func36, Tryd.ntmps36
  go_wp2_with fail
  refine (all_T (w.heap.size + 1 + 1 + 1) _).mono ?_
  rintro e_ w2 ⟨vT, rfl, hR, hb⟩
  obtain ⟨AT, cT, eT, -, -⟩ := Kd.R_reads hR
  have eT : vT = .slice AT 64 cT := by simpa using eT
  subst eT
  have T_6 := Aside0.mk (Kd.R_lower hR B5.out.size)
  clear hR
  have A_7 := Aside0.mk (blk_below A_1.out hb)
  have B_8 := Aside0.mk (blk_below B_2.out hb)
  have X_9 := Aside0.mk (blk_below X_3.out hb)
  have O_10 := Aside0.mk (blk_below O_4.out hb)
  have B11 := Aside0.mk (below_step B5.out hb)
  clear hb B5 A_1 B_2 X_3 O_4
  go_wp2_with fail
  refine (all_T (w.heap.size + 1) _).mono ?_
  rintro e_ w3 ⟨vF, rfl, hR, hb⟩
  obtain ⟨AF, cF, eF, -, -⟩ := Kd.R_reads hR
  have eF : vF = .slice AF 64 cF := by simpa using eF
  subst eF
  have F_12 := Aside0.mk (Kd.R_lower hR B11.out.size)
  clear hR
  have A_13 := Aside0.mk (blk_below A_7.out hb)
  have B_14 := Aside0.mk (blk_below B_8.out hb)
  have X_15 := Aside0.mk (blk_below X_9.out hb)
  have O_16 := Aside0.mk (blk_below O_10.out hb)
  have T_17 := Aside0.mk (Kd.R_below T_6.out hb)
  have B18 := Aside0.mk (below_step B11.out hb)
  clear hb B11 A_7 B_8 X_9 O_10 T_6
  go_wp2_with fail
  refine (all_T (w.heap.size) _).mono ?_
  rintro e_ w4 ⟨vN, rfl, hR, hb⟩
  obtain ⟨AN, cN, eN, -, -⟩ := Kd.R_reads hR
  have eN : vN = .slice AN 64 cN := by simpa using eN
  subst eN
  have N_19 := Aside0.mk (Kd.R_lower hR B18.out.size)
  clear hR
  have A_20 := Aside0.mk (blk_below A_13.out hb)
  have B_21 := Aside0.mk (blk_below B_14.out hb)
  have X_22 := Aside0.mk (blk_below X_15.out hb)
  have O_23 := Aside0.mk (blk_below O_16.out hb)
  have T_24 := Aside0.mk (Kd.R_below T_17.out hb)
  have F_25 := Aside0.mk (Kd.R_below F_12.out hb)
  have B26 := Aside0.mk (below_step B18.out hb)
  clear hb B18 A_13 B_14 X_15 O_16 T_17 F_12
  go_wp2_with fail
  go_loopg [15] 64 (fun kq v15 w' => ∃ (i : Int), v15 = .int .i64 i ∧ Aside0 (0 ≤ i ∧ i + kq = 64) ∧ Aside0 (∀ j, j < i.toNat → 0 ≤ (subL a b).getD j 0) ∧ Aside0 (Below w.heap.size w w') ∧ Aside0 (w'.heap[w.heap.size]? = some (.cells (TV a) 51 (0, 0))) ∧ Aside0 (w'.heap[w.heap.size + 1]? = some (.cells (TV b) 51 (0, 0))) ∧ Aside0 (w'.heap[w.heap.size + 1 + 1]? = some (.cells (TV zero64) 51 (0, 0))) ∧ Aside0 (w'.heap[w.heap.size + 1 + 1 + 1]? = some (.cells (TV (subN a b i.toNat)) 51 (0, 0))) ∧ Aside0 (kp.R 87 w' w.heap.size (fun _ => True) (.slice AT 64 cT) ((List.range 64).map (fun i => (w.heap.size + 1 + 1 + 1, i)))) ∧ Aside0 (kp.R 87 w' w.heap.size (fun _ => True) (.slice AF 64 cF) ((List.range 64).map (fun i => (w.heap.size + 1, i)))) ∧ Aside0 (kp.R 87 w' w.heap.size (fun _ => True) (.slice AN 64 cN) ((List.range 64).map (fun i => (w.heap.size, i)))))
  case atStart => exact ⟨0, rfl, ⟨by omega⟩, ⟨fun j hj => absurd hj (by simp)⟩, ⟨B26.out⟩, ⟨A_20.out⟩, ⟨B_21.out⟩, ⟨by rw [TV_zero]; exact X_22.out⟩, ⟨by rw [show (0 : Int).toNat = 0 from rfl, subN_0, TV_zero]; exact O_23.out⟩, ⟨T_24.out⟩, ⟨F_25.out⟩, ⟨N_19.out⟩⟩
  case round =>
    clear B26 A_20 B_21 X_22 O_23 T_24 F_25 N_19
    obtain ⟨i, rfl, HK, HN, B900, A_900, B_900, X_900, O_900, T_900, F_900, N_900⟩ := hrel
    by_cases hi : i < 64
    · have d1 : decide (i < 64) = true := decide_eq_true hi
      have p0 : (0 : Int) ≤ i := HK.out.1
      have q1 := Aside0.mk (show 0 ≤ i ∧ i < 64 from ⟨p0, hi⟩)
      obtain ⟨ko, rfl⟩ : ∃ m, gk = m + 1 := ⟨gk - 1, by have := HK.out; omega⟩
      obtain ⟨pT, eT_, xT⟩ := at_p T_900.out i p0 hi
      subst eT_
      have CT := Aside0.mk xT
      clear xT
      obtain ⟨pF, eF_, xF⟩ := at_p F_900.out i p0 hi
      subst eF_
      have CF := Aside0.mk xF
      clear xF
      obtain ⟨pN, eN_, xN⟩ := at_p N_900.out i p0 hi
      subst eN_
      have CN := Aside0.mk xN
      clear xN
      have HX := Aside0.mk (sub_at HA.out HBB.out i.toNat (by omega))
      have hst := subN_step HA.out HBB.out i.toNat (by omega)
      have ga := TV_get a i.toNat (by have := HA.out; omega)
      have gb := TV_get b i.toNat (by have := HBB.out; omega)
      have go_ := TV_get (subN a b i.toNat) i.toNat (by have := subN_len HA.out HBB.out i.toNat (by omega); omega)
      generalize a.getD i.toNat 0 = x at HX hst ga
      generalize b.getD i.toNat 0 = y at HX hst gb
      have HST := Aside0.mk hst
      have GA := Aside0.mk ga
      have GB := Aside0.mk gb
      have GO := Aside0.mk go_
      clear hst ga gb go_
      have n0 : wr.cell? (pN.add i.toNat) = some (.pointer (some ⟨w.heap.size, i.toNat, none⟩)) := CN.out
      have p0b : decide (0 ≤ i) = true := decide_eq_true p0
      have wi : wrap64 (i + 1) = i + 1 := by have := q1.out; unfold wrap64; omega
      replace p0 := eq_true p0
      replace hi := eq_true hi
      go_wp2_with fail
      refine start_ (n := 16) (S := fun w' => w'.cell? (pT.add i.toNat) = some (.pointer (some ⟨w.heap.size + 1 + 1 + 1, i.toNat, none⟩)) ∧ w'.cell? (pF.add i.toNat) = some (.pointer (some ⟨w.heap.size + 1, i.toNat, none⟩)) ∧ w'.cell? ⟨w.heap.size, i.toNat, none⟩ = some (.int .i64 x) ∧ w'.cell? ⟨w.heap.size + 1, i.toNat, none⟩ = some (.int .i64 y)) (ds := [15]) #[false, false, false, false, false, false, false, false, false, false, false, false, false, false, false, false] (by kernel_rfl) rfl rfl ⟨CT.out, CF.out, (blk_cell (blk_drew A_900.out) i.toNat).trans GA.out, (blk_cell (blk_drew B_900.out) i.toNat).trans GB.out⟩ (fun hHeld => ?_)
      refine pure_ (i := 0) (N := some 20) (v := ?_) (a' := ?_) #[true, false, false, false, false, false, false, false, false, false, false, false, false, false, false, false] rfl rfl (by kernel_rfl) (fun _ _ _ h => h) (Or.inl ⟨by rfl, ?_⟩) ?_ ?_
      rotate_left
      · intro w'
        go_simp
        with_reducible rfl
      rotate_left
      · simp only [Act.put, List.setIfInBounds_toArray, List.set_cons_zero, List.set_cons_succ, i64_w, i32_w]
        rfl
      refine pure_ (i := 1) (N := some 21) (v := ?_) (a' := ?_) #[true, true, false, false, false, false, false, false, false, false, false, false, false, false, false, false] rfl rfl (by kernel_rfl) (fun _ _ _ h => h) (Or.inl ⟨by rfl, ?_⟩) ?_ ?_
      rotate_left
      · intro w'
        go_simp
        with_reducible rfl
      rotate_left
      · simp only [Act.put, List.setIfInBounds_toArray, List.set_cons_zero, List.set_cons_succ, i64_w, i32_w]
        rfl
      refine pure_ (i := 2) (N := some 22) (v := ?_) (a' := ?_) #[true, true, true, false, false, false, false, false, false, false, false, false, false, false, false, false] rfl rfl (by kernel_rfl) (fun _ _ _ h => h) (Or.inl ⟨by rfl, ?_⟩) ?_ ?_
      rotate_left
      · intro w'
        go_simp
        with_reducible rfl
      rotate_left
      · simp only [Act.put, List.setIfInBounds_toArray, List.set_cons_zero, List.set_cons_succ, i64_w, i32_w]
        rfl
      refine pure_ (i := 4) (N := some 24) (v := ?_) (a' := ?_) #[true, true, true, false, true, false, false, false, false, false, false, false, false, false, false, false] rfl rfl (by kernel_rfl) (fun _ _ _ h => h) (Or.inl ⟨by rfl, ?_⟩) ?_ ?_
      rotate_left
      · intro w'
        go_simp
        with_reducible rfl
      rotate_left
      · simp only [Act.put, List.setIfInBounds_toArray, List.set_cons_zero, List.set_cons_succ, i64_w, i32_w]
        rfl
      refine pure_ (i := 5) (N := some 25) (v := ?_) (a' := ?_) #[true, true, true, false, true, true, false, false, false, false, false, false, false, false, false, false] rfl rfl (by kernel_rfl) (fun _ _ _ h => h) (Or.inl ⟨by rfl, ?_⟩) ?_ ?_
      rotate_left
      · intro w'
        go_simp
        with_reducible rfl
      rotate_left
      · simp only [Act.put, List.setIfInBounds_toArray, List.set_cons_zero, List.set_cons_succ, i64_w, i32_w]
        rfl
      refine pure_ (i := 7) (N := some 27) (v := ?_) (a' := ?_) #[true, true, true, false, true, true, false, true, false, false, false, false, false, false, false, false] rfl rfl (by kernel_rfl) (fun _ _ _ h => h) (Or.inl ⟨by rfl, ?_⟩) ?_ ?_
      rotate_left
      · intro w'
        go_simp
        with_reducible rfl
      rotate_left
      · simp only [Act.put, List.setIfInBounds_toArray, List.set_cons_zero, List.set_cons_succ, i64_w, i32_w]
        rfl
      refine pure_ (i := 8) (N := some 28) (v := ?_) (a' := ?_) #[true, true, true, false, true, true, false, true, true, false, false, false, false, false, false, false] rfl rfl (by kernel_rfl) (fun _ _ _ h => h) (Or.inl ⟨by rfl, ?_⟩) ?_ ?_
      rotate_left
      · intro w'
        go_simp
        with_reducible rfl
      rotate_left
      · simp only [Act.put, List.setIfInBounds_toArray, List.set_cons_zero, List.set_cons_succ, i64_w, i32_w]
        rfl
      refine pure_ (i := 9) (N := some 29) (v := ?_) (a' := ?_) #[true, true, true, false, true, true, false, true, true, true, false, false, false, false, false, false] rfl rfl (by kernel_rfl) (fun _ _ _ h => h) (Or.inl ⟨by rfl, ?_⟩) ?_ ?_
      rotate_left
      · intro w'
        go_simp
        with_reducible rfl
      rotate_left
      · simp only [Act.put, List.setIfInBounds_toArray, List.set_cons_zero, List.set_cons_succ, i64_w, i32_w]
        rfl
      refine take_ (i := 3) (N := some 23) (v := ?_) (a' := ?_) #[true, true, true, true, true, true, false, true, true, true, false, false, false, false, false, false] rfl rfl (by kernel_rfl) (fun _ _ _ h => h) (Or.inl ⟨by rfl, ?_⟩) hHeld ?_ ?_
      rotate_left
      · rintro w' ⟨s0, s1, s2, s3⟩
        go_simp
        with_reducible rfl
      rotate_left
      · simp only [Act.put, List.setIfInBounds_toArray, List.set_cons_zero, List.set_cons_succ, i64_w, i32_w]
        rfl
      refine take_ (i := 6) (N := some 26) (v := ?_) (a' := ?_) #[true, true, true, true, true, true, true, true, true, true, false, false, false, false, false, false] rfl rfl (by kernel_rfl) (fun _ _ _ h => h) (Or.inl ⟨by rfl, ?_⟩) hHeld ?_ ?_
      rotate_left
      · rintro w' ⟨s0, s1, s2, s3⟩
        go_simp
        with_reducible rfl
      rotate_left
      · simp only [Act.put, List.setIfInBounds_toArray, List.set_cons_zero, List.set_cons_succ, i64_w, i32_w]
        rfl
      refine take_ (i := 10) (N := some 30) (v := ?_) (a' := ?_) #[true, true, true, true, true, true, true, true, true, true, true, false, false, false, false, false] rfl rfl (by kernel_rfl) (fun _ _ _ h => h) (Or.inl ⟨by rfl, ?_⟩) hHeld ?_ ?_
      rotate_left
      · rintro w' ⟨s0, s1, s2, s3⟩
        go_simp
        with_reducible rfl
      rotate_left
      · simp only [Act.put, List.setIfInBounds_toArray, List.set_cons_zero, List.set_cons_succ, i64_w, i32_w]
        rfl
      refine pure_ (i := 11) (N := some 31) (v := ?_) (a' := ?_) #[true, true, true, true, true, true, true, true, true, true, true, true, false, false, false, false] rfl rfl (by kernel_rfl) (fun _ _ _ h => h) (Or.inl ⟨by rfl, ?_⟩) ?_ ?_
      rotate_left
      · intro w'
        go_simp
        with_reducible rfl
      rotate_left
      · simp only [Act.put, List.setIfInBounds_toArray, List.set_cons_zero, List.set_cons_succ, i64_w, i32_w]
        rfl
      refine take_ (i := 12) (N := some 32) (v := ?_) (a' := ?_) #[true, true, true, true, true, true, true, true, true, true, true, true, true, false, false, false] rfl rfl (by kernel_rfl) (fun _ _ _ h => h) (Or.inl ⟨by rfl, ?_⟩) hHeld ?_ ?_
      rotate_left
      · rintro w' ⟨s0, s1, s2, s3⟩
        go_simp
        with_reducible rfl
      rotate_left
      · simp only [Act.put, List.setIfInBounds_toArray, List.set_cons_zero, List.set_cons_succ, i64_w, i32_w]
        rfl
      refine pure_ (i := 13) (N := some 33) (v := ?_) (a' := ?_) #[true, true, true, true, true, true, true, true, true, true, true, true, true, true, false, false] rfl rfl (by kernel_rfl) (fun _ _ _ h => h) (Or.inl ⟨by rfl, ?_⟩) ?_ ?_
      rotate_left
      · intro w'
        go_simp
        with_reducible rfl
      rotate_left
      · simp only [Act.put, List.setIfInBounds_toArray, List.set_cons_zero, List.set_cons_succ, i64_w, i32_w]
        rfl
      refine pure_ (i := 14) (N := some 34) (v := ?_) (a' := ?_) #[true, true, true, true, true, true, true, true, true, true, true, true, true, true, true, false] rfl rfl (by kernel_rfl) (fun _ _ _ h => h) (Or.inl ⟨by rfl, ?_⟩) ?_ ?_
      rotate_left
      · intro w'
        go_simp
        with_reducible rfl
      rotate_left
      · simp only [Act.put, List.setIfInBounds_toArray, List.set_cons_zero, List.set_cons_succ, i64_w, i32_w]
        rfl
      refine last_ (i := 15) (N := none) #[true, true, true, true, true, true, true, true, true, true, true, true, true, true, true, true] rfl rfl (by kernel_rfl) (by decide) (fun K hK => ?_)
      refine skip_cell (w := w) 3 (.tmp 34) (.tmp 33) (by rfl) rfl rfl (g := w.heap.size + 1 + 1 + 1) i.toNat ?_ (.int .i64 (wrap64 (x - y))) ?_ rfl (by kernel_rfl) rfl (blk_drew O_900.out) (by rw [TV_size]; have := subN_len HA.out HBB.out i.toNat (by have := q1.out; omega); have := q1.out; omega) L_O.out (below_drew B900.out) ?_
      · rfl
      · rfl
      intro wz h1 h2 h3
      have T_901 := Aside0.mk (row_farp (Kd.R_drew T_900.out) (blk_drew O_900.out) (by decide) h3)
      have F_902 := Aside0.mk (row_farp (Kd.R_drew F_900.out) (blk_drew O_900.out) (by decide) h3)
      have N_903 := Aside0.mk (row_farp (Kd.R_drew N_900.out) (blk_drew O_900.out) (by decide) h3)
      have A_904 := Aside0.mk ((h3 _ (show w.heap.size ≠ w.heap.size + 1 + 1 + 1 by omega)).trans (blk_drew A_900.out))
      have B_905 := Aside0.mk ((h3 _ (show w.heap.size + 1 ≠ w.heap.size + 1 + 1 + 1 by omega)).trans (blk_drew B_900.out))
      have X_906 := Aside0.mk ((h3 _ (show w.heap.size + 1 + 1 ≠ w.heap.size + 1 + 1 + 1 by omega)).trans (blk_drew X_900.out))
      have O_907 := Aside0.mk (show wz.heap[w.heap.size + 1 + 1 + 1]? = some (.cells (TV (subN a b (i.toNat + 1))) 51 (0, 0)) from by rw [h1, TV_set, HST.out])
      have B908 := Aside0.mk h2
      have CT2 := Aside0.mk (show wz.cell? (pT.add i.toNat) = some (.pointer (some ⟨w.heap.size + 1 + 1 + 1, i.toNat, none⟩)) from by obtain ⟨p2, e2, x2⟩ := at_p T_901.out i q1.out.1 q1.out.2; injection e2 with e2; rw [e2]; exact x2)
      clear h1 h2 h3 T_900 F_900 N_900 A_900 B_900 X_900 O_900 B900
      refine hK.out _ _ ?_
      clear hK K
      refine done_ (by kernel_rfl) ?_
      have oc2 : wz.cell? ⟨w.heap.size + 1 + 1 + 1, i.toNat, none⟩ = some (.int .i64 (wrap64 (x - y))) := (blk_cell O_907.out i.toNat).trans (setN_get HST.out (by have := subN_len HA.out HBB.out i.toNat (by have := q1.out; omega); have := q1.out; omega))
      have ct2 := CT2.out
      by_cases hn : wrap64 (x - y) < 0
      · have t1 : decide (wrap64 (x - y) < 0) = true := decide_eq_true hn
        have t2 := eq_true hn
        have HL := Aside0.mk (show lessV a b = (zero64, false) from by unfold lessV; rw [if_neg]; intro hall; have h1 := List.all_eq_true.1 hall (wrap64 (x - y)) (by have h2 := HX.out; rw [← h2, List.getD_eq_getElem?_getD, List.getElem?_eq_getElem (by rw [subL_len HA.out HBB.out]; have := q1.out; omega)]; exact List.getElem_mem _); have h3 := of_decide_eq_true h1; omega)
        clear hn
        go_wp2_with (first
          | ((with_reducible refine wpSt 51 (.tmp 4) (.tmp 42) ?_); refine store_whole (w := w) (B := w.heap.size) rfl rfl 51 (.tmp 4) (.tmp 42) rfl (g := w.heap.size + 1 + 1) (cs := TV zero64) rfl _ rfl rfl (tot51 _ (by first | assumption | (simp [zero64]; done))) (TV_one _) X_906.out (by first | (simp [TV_size, zero64]; done) | (rw [TV_size, TV_size]; simp [zero64]; omega)) L_X.out B908.out ?_; intro w_909 h1 h2 h3 h4; have T_910 := Aside0.mk (row_farp T_901.out X_906.out (by decide) h3); have F_911 := Aside0.mk (row_farp F_902.out X_906.out (by decide) h3); have N_912 := Aside0.mk (row_farp N_903.out X_906.out (by decide) h3); have A_913 := Aside0.mk ((h3 _ NE_A_X.out).trans A_904.out); have B_914 := Aside0.mk ((h3 _ NE_B_X.out).trans B_905.out); have X_915 := Aside0.mk (h1); have O_916 := Aside0.mk ((h3 _ (Ne.symm NE_X_O.out)).trans O_907.out); have B917 := Aside0.mk (h2); clear h1 h2 h3 h4 T_901 F_902 N_903 A_904 B_905 X_906 O_907 B908))
        rw [HL.out]
        exact bodyPost_ret (results_cell2 (P := Tryd.prog) rfl _ _ (w.heap.size + 1 + 1) 51 (TV zero64) (0, 0) _ rfl X_915.out Tryd.underlying51 rfl (info51 _ (by simp [zero64])) rfl) rfl ⟨rfl, B917.out⟩
      · have t1 : decide (wrap64 (x - y) < 0) = false := decide_eq_false hn
        have t2 := eq_false hn
        have HN2 := Aside0.mk (show ∀ j, j < (i + 1).toNat → 0 ≤ (subL a b).getD j 0 from fun j hj => (Nat.lt_or_ge j i.toNat).elim (fun hq => HN.out j hq) (fun hq => by have e9 : j = i.toNat := (by have := q1.out; omega); rw [e9, HX.out]; omega))
        clear hn
        go_wp2_with fail
        go_roundg ko
        case rel => exact ⟨i + 1, by first | rfl | rw [wi], ⟨by have := HK.out; have := q1.out; omega⟩, HN2, ⟨B908.out⟩, ⟨A_904.out⟩, ⟨B_905.out⟩, ⟨X_906.out⟩, ⟨by rw [show (i + 1).toNat = i.toNat + 1 by have := q1.out; omega]; exact O_907.out⟩, ⟨T_901.out⟩, ⟨F_902.out⟩, ⟨N_903.out⟩⟩
        case measure => exact Nat.lt_succ_self _
    · have d1 : decide (i < 64) = false := decide_eq_false hi
      obtain rfl : i = 64 := by have := HK.out; omega
      have HL := Aside0.mk (show lessV a b = (subL a b, true) from by unfold lessV; rw [if_pos]; rw [List.all_eq_true]; intro z hz; obtain ⟨j, hj, rfl⟩ := List.getElem_of_mem hz; have h1 := HN.out j (by rw [subL_len HA.out HBB.out] at hj; exact hj); rw [List.getD_eq_getElem?_getD, List.getElem?_eq_getElem hj] at h1; exact decide_eq_true h1)
      have O_901 := Aside0.mk (show wr.heap[w.heap.size + 1 + 1 + 1]? = some (.cells (TV (subL a b)) 51 (0, 0)) from by have := O_900.out; rw [show ((64 : Int)).toNat = 64 from rfl, subN_64 HA.out HBB.out] at this; exact this)
      have HLN := subL_len HA.out HBB.out
      clear hi HK HN O_900
      go_wp2_with (first
        | ((with_reducible refine wpLd 51 (.tmp 6) ?_); refine wpList_load_row_g (by rfl) 51 (.tmp 6) rfl (w.heap.size + 1 + 1 + 1) rfl 51 (TV (subL a b)) (0, 0) _ O_901.out Tryd.underlying51 rfl (info51 _ (by first | assumption | (simp; done))) ?_)
        | ((with_reducible refine wpSt 51 (.tmp 4) (.tmp 44) ?_); refine store_whole (w := w) (B := w.heap.size) rfl rfl 51 (.tmp 4) (.tmp 44) rfl (g := w.heap.size + 1 + 1) (cs := TV (subL a b)) rfl _ rfl rfl (tot51 _ (by first | assumption | (simp [zero64]; done))) (TV_one _) X_900.out (by first | (simp [TV_size, zero64]; done) | (rw [TV_size, TV_size]; simp [zero64]; omega)) L_X.out B900.out ?_; intro w_902 h1 h2 h3 h4; have T_903 := Aside0.mk (row_farp T_900.out X_900.out (by decide) h3); have F_904 := Aside0.mk (row_farp F_900.out X_900.out (by decide) h3); have N_905 := Aside0.mk (row_farp N_900.out X_900.out (by decide) h3); have A_906 := Aside0.mk ((h3 _ NE_A_X.out).trans A_900.out); have B_907 := Aside0.mk ((h3 _ NE_B_X.out).trans B_900.out); have X_908 := Aside0.mk (h1); have O_909 := Aside0.mk ((h3 _ (Ne.symm NE_X_O.out)).trans O_901.out); have B910 := Aside0.mk (h2); clear h1 h2 h3 h4 T_900 F_900 N_900 A_900 B_900 X_900 O_901 B900))
      rw [HL.out]
      exact bodyPost_ret (results_cell2 (P := Tryd.prog) rfl _ _ (w.heap.size + 1 + 1) 51 (TV (subL a b)) (0, 0) _ rfl X_908.out Tryd.underlying51 rfl (info51 _ (subL_len HA.out HBB.out)) rfl) rfl ⟨rfl, B910.out⟩
end Go.Proofs.YtcncndhoeiaoeaaDoor.PTallyExact

