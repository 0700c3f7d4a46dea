/-
Tallies are equal where their numbers are.
-/
import Derived.Test.YtcncndhoeiaoeaaDoorTalB
namespace Go.Proofs.YtcncndhoeiaoeaaDoor.PTallyExact
open Go Go.RowKit Go.Proofs.YtcncndhoeiaoeaaDoorW.PrintWords Go.Proofs.YtcncndhoeiaoeaaDoorW.PrintLast Go.Proofs.YtcncndhoeiaoeaaDoorW.PrintMore
set_option linter.unusedVariables false
set_option linter.unusedSimpArgs false
theorem part3 (l : List Int) (j : Nat) (h : j < l.length) (w : World) : (part 3 (TV l) j).run Tryd.prog w = .ok (.int .i64 (l.getD j 0)) w := by
  have h1 := TV_get l j h
  simp [part, isAgg, run_underlying Tryd.underlying3, h1]
theorem q3 (d : Nat) (x y : Int) (w : World) : (Op.equalIn (d + 1) 3 (.int .i64 x) (.int .i64 y)).run Tryd.prog w = .ok (x == y) w := run_equalIn_int w d 3 .i64 .i64 x y Tryd.underlying3
theorem fields48' : (Tryd.prog.fieldsOf 48).toList = [{ name := "Steps", type := 3, offset := 0, embedded := false, tag := "", pkgPath := "", byteOffset := 0 }, { name := "Began", type := 3, offset := 1, embedded := false, tag := "", pkgPath := "", byteOffset := 8 }, { name := "Over", type := 3, offset := 2, embedded := false, tag := "", pkgPath := "", byteOffset := 16 }, { name := "Done", type := 3, offset := 3, embedded := false, tag := "", pkgPath := "", byteOffset := 24 }, { name := "Undone", type := 3, offset := 4, embedded := false, tag := "", pkgPath := "", byteOffset := 32 }, { name := "Full", type := 3, offset := 5, embedded := false, tag := "", pkgPath := "", byteOffset := 40 }, { name := "Late", type := 3, offset := 6, embedded := false, tag := "", pkgPath := "", byteOffset := 48 }] := by kernel_rfl
theorem seven_cases (l : List Int) (h : l.length = 7) : ∃ a b c d e f g, l = [a, b, c, d, e, f, g] := by
  match l, h with
  | [a, b, c, d, e, f, g], _ => exact ⟨a, b, c, d, e, f, g, rfl⟩
theorem eq48 (d : Nat) (l m : List Int) (hl : l.length = 7) (hm : m.length = 7) (w : World) : (Op.equalIn (d + 2) 48 (.agg (TV l)) (.agg (TV m))).run Tryd.prog w = .ok (decide (l = m)) w := by
  rw [run_equalIn_struct w (d + 1) 48 _ _ (by kernel_rfl) (by kernel_rfl), fields48']
  have pl : ∀ j, j < 7 → ∀ w : World, (part 3 (TV l) j).run Tryd.prog w = .ok (.int .i64 (l.getD j 0)) w := fun j hj w => part3 l j (by omega) w
  have pm : ∀ j, j < 7 → ∀ w : World, (part 3 (TV m) j).run Tryd.prog w = .ok (.int .i64 (m.getD j 0)) w := fun j hj w => part3 m j (by omega) w
  have l0 := pl 0 (by omega); have l1 := pl 1 (by omega); have l2 := pl 2 (by omega); have l3 := pl 3 (by omega); have l4 := pl 4 (by omega); have l5 := pl 5 (by omega); have l6 := pl 6 (by omega)
  have m0 := pm 0 (by omega); have m1 := pm 1 (by omega); have m2 := pm 2 (by omega); have m3 := pm 3 (by omega); have m4 := pm 4 (by omega); have m5 := pm 5 (by omega); have m6 := pm 6 (by omega)
  obtain ⟨x0, x1, x2, x3, x4, x5, x6, rfl⟩ := seven_cases l hl
  obtain ⟨y0, y1, y2, y3, y4, y5, y6, rfl⟩ := seven_cases m hm
  clear pl pm hl hm
  have hd : decide ([x0, x1, x2, x3, x4, x5, x6] = [y0, y1, y2, y3, y4, y5, y6]) = (x0 == y0 && (x1 == y1 && (x2 == y2 && (x3 == y3 && (x4 == y4 && (x5 == y5 && x6 == y6)))))) := by
    apply Bool.eq_iff_iff.2
    simp only [decide_eq_true_eq, List.cons.injEq, and_true, Bool.and_eq_true, beq_iff_eq]
  rw [hd]
  simp only [List.getD_cons_zero, List.getD_cons_succ] at *
  generalize TV [x0, x1, x2, x3, x4, x5, x6] = A at *
  generalize TV [y0, y1, y2, y3, y4, y5, y6] = B at *
  have r0 := fun w => q3 d x0 y0 w
  generalize (x0 == y0) = z0 at r0 ⊢
  have r1 := fun w => q3 d x1 y1 w
  generalize (x1 == y1) = z1 at r1 ⊢
  have r2 := fun w => q3 d x2 y2 w
  generalize (x2 == y2) = z2 at r2 ⊢
  have r3 := fun w => q3 d x3 y3 w
  generalize (x3 == y3) = z3 at r3 ⊢
  have r4 := fun w => q3 d x4 y4 w
  generalize (x4 == y4) = z4 at r4 ⊢
  have r5 := fun w => q3 d x5 y5 w
  generalize (x5 == y5) = z5 at r5 ⊢
  have r6 := fun w => q3 d x6 y6 w
  generalize (x6 == y6) = z6 at r6 ⊢
  cases z0
  · simp [Op.eqFields, l0, m0, r0]
  cases z1
  · simp [Op.eqFields, l0, m0, r0, l1, m1, r1]
  cases z2
  · simp [Op.eqFields, l0, m0, r0, l1, m1, r1, l2, m2, r2]
  cases z3
  · simp [Op.eqFields, l0, m0, r0, l1, m1, r1, l2, m2, r2, l3, m3, r3]
  cases z4
  · simp [Op.eqFields, l0, m0, r0, l1, m1, r1, l2, m2, r2, l3, m3, r3, l4, m4, r4]
  cases z5
  · simp [Op.eqFields, l0, m0, r0, l1, m1, r1, l2, m2, r2, l3, m3, r3, l4, m4, r4, l5, m5, r5]
  cases z6
  · simp [Op.eqFields, l0, m0, r0, l1, m1, r1, l2, m2, r2, l3, m3, r3, l4, m4, r4, l5, m5, r5, l6, m6, r6]
  simp [Op.eqFields, l0, m0, r0, l1, m1, r1, l2, m2, r2, l3, m3, r3, l4, m4, r4, l5, m5, r5, l6, m6, r6]
def seg (l : List Int) (i : Nat) : List Int := (l.drop (i * 7)).take 7
theorem seg_len {l : List Int} {i : Nat} (h : i * 7 + 7 ≤ l.length) : (seg l i).length = 7 := by simp [seg]; omega
theorem TV_seg (m : List Int) (j : Nat) : (TV m).extract j (j + 7) = TV ((m.drop j).take 7) := by
  simp [TV, List.map_take, List.map_drop]
theorem items48 (w : World) (d : Nat) (l m : List Int) (hl : l.length = 63) (hm : m.length = 63) : ∀ is : List Nat, (∀ i ∈ is, i < 9) →
    (Op.eqItems (d + 2) 48 7 (TV l) (TV m) is).run Tryd.prog w = .ok (is.all fun i => decide (seg l i = seg m i)) w
  | [], _ => by simp [Op.eqItems]
  | i :: is, h => by
    have ih := items48 w d l m hl hm is (fun j hj => h j (by simp [hj]))
    have hi := h i (by simp)
    have hs : (sizeOf 48).run Tryd.prog w = .ok 7 w := by kernel_rfl
    have pa : (part 48 (TV l) (i * 7)).run Tryd.prog w = .ok (.agg (TV (seg l i))) w := by
      simp [part, isAgg, run_underlying Tryd.underlying48, hs, TV_seg, seg]
    have pb : (part 48 (TV m) (i * 7)).run Tryd.prog w = .ok (.agg (TV (seg m i))) w := by
      simp [part, isAgg, run_underlying Tryd.underlying48, hs, TV_seg, seg]
    simp only [Op.eqItems, Sem.run_bind, pa, pb, Result.andThen_ok, eq48 d _ _ (seg_len (l := l) (i := i) (by omega)) (seg_len (l := m) (i := i) (by omega)), List.all_cons]
    cases (decide (seg l i = seg m i))
    · simp
    · simpa using ih
theorem items3 (w : World) (d : Nat) (l m : List Int) (hl : l.length = 7) (hm : m.length = 7) : ∀ is : List Nat, (∀ i ∈ is, i < 7) →
    (Op.eqItems (d + 1) 3 1 (TV l) (TV m) is).run Tryd.prog w = .ok (is.all fun i => l.getD i 0 == m.getD i 0) w
  | [], _ => by simp [Op.eqItems]
  | i :: is, h => by
    have ih := items3 w d l m hl hm is (fun j hj => h j (by simp [hj]))
    have hi := h i (by simp)
    simp only [Op.eqItems, Sem.run_bind, Nat.mul_one, part3 l i (by omega), part3 m i (by omega), q3, Result.andThen_ok, List.all_cons]
    cases (l.getD i 0 == m.getD i 0)
    · simp
    · simpa using ih
theorem all_getD {l m : List Int} {n : Nat} (hl : l.length = n) (hm : m.length = n) : ((List.range n).all fun i => l.getD i 0 == m.getD i 0) = decide (l = m) := by
  apply Bool.eq_iff_iff.2
  simp only [List.all_eq_true, List.mem_range, decide_eq_true_eq, beq_iff_eq]
  constructor
  · intro h
    apply List.ext_getElem (by omega)
    intro i h1 h2
    have := h i (by omega)
    rw [List.getD_eq_getElem?_getD, List.getD_eq_getElem?_getD, List.getElem?_eq_getElem h1, List.getElem?_eq_getElem h2] at this
    exact this
  · rintro rfl i _; rfl
theorem eq53 (d : Nat) (l m : List Int) (hl : l.length = 7) (hm : m.length = 7) (w : World) : (Op.equalIn (d + 2) 53 (.agg (TV l)) (.agg (TV m))).run Tryd.prog w = .ok (decide (l = m)) w := by
  obtain ⟨i, hi⟩ := info_of_underlying Tryd.underlying3
  rw [run_equalIn_array w (d + 1) (TV l) (TV m) (n := 7) (e := 3) (by kernel_rfl) hi, show Tryd.prog.cellsOf 3 = 1 by kernel_rfl]
  rw [items3 w d l m hl hm (List.range 7) (fun i hi => List.mem_range.1 hi), all_getD hl hm]
theorem items53 (w : World) (d : Nat) (l m : List Int) (hl : l.length = 63) (hm : m.length = 63) : ∀ is : List Nat, (∀ i ∈ is, i < 9) →
    (Op.eqItems (d + 2) 53 7 (TV l) (TV m) is).run Tryd.prog w = .ok (is.all fun i => decide (seg l i = seg m i)) w
  | [], _ => by simp [Op.eqItems]
  | i :: is, h => by
    have ih := items53 w d l m hl hm is (fun j hj => h j (by simp [hj]))
    have hi := h i (by simp)
    have hs : (sizeOf 53).run Tryd.prog w = .ok 7 w := by kernel_rfl
    have pa : (part 53 (TV l) (i * 7)).run Tryd.prog w = .ok (.agg (TV (seg l i))) w := by
      simp [part, isAgg, run_underlying Tryd.underlying53, hs, TV_seg, seg]
    have pb : (part 53 (TV m) (i * 7)).run Tryd.prog w = .ok (.agg (TV (seg m i))) w := by
      simp [part, isAgg, run_underlying Tryd.underlying53, hs, TV_seg, seg]
    simp only [Op.eqItems, Sem.run_bind, pa, pb, Result.andThen_ok, eq53 d _ _ (seg_len (l := l) (i := i) (by omega)) (seg_len (l := m) (i := i) (by omega)), List.all_cons]
    cases (decide (seg l i = seg m i))
    · simp
    · simpa using ih
theorem seg_join (l : List Int) : ∀ k, l.take (k * 7) = ((List.range k).map (seg l)).flatten
  | 0 => by simp
  | k + 1 => by
    rw [List.range_succ, List.map_append, List.flatten_append, ← seg_join l k, show (k + 1) * 7 = k * 7 + 7 by omega, List.take_add]
    simp [seg]
theorem segs_eq {l m : List Int} (hl : l.length = 63) (hm : m.length = 63) : ((List.range 9).all fun i => decide (seg l i = seg m i)) = decide (l = m) := by
  apply Bool.eq_iff_iff.2
  simp only [List.all_eq_true, List.mem_range, decide_eq_true_eq]
  constructor
  · intro h
    have h1 := seg_join l 9
    have h2 := seg_join m 9
    rw [List.take_of_length_le (by omega)] at h1 h2
    rw [h1, h2]
    congr 1
    exact List.map_congr_left (fun i hi => h i (List.mem_range.1 hi))
  · rintro rfl i _; rfl
theorem eq49 (d : Nat) (l m : List Int) (hl : l.length = 63) (hm : m.length = 63) (w : World) : (Op.equalIn (d + 3) 49 (.agg (TV l)) (.agg (TV m))).run Tryd.prog w = .ok (decide (l = m)) w := by
  obtain ⟨i, hi⟩ := info_of_underlying Tryd.underlying48
  rw [run_equalIn_array w (d + 2) (TV l) (TV m) (n := 9) (e := 48) (by kernel_rfl) hi, show Tryd.prog.cellsOf 48 = 7 by kernel_rfl]
  rw [items48 w d l m hl hm (List.range 9) (fun i hi => List.mem_range.1 hi), segs_eq hl hm]
theorem eq54 (d : Nat) (l m : List Int) (hl : l.length = 63) (hm : m.length = 63) (w : World) : (Op.equalIn (d + 3) 54 (.agg (TV l)) (.agg (TV m))).run Tryd.prog w = .ok (decide (l = m)) w := by
  obtain ⟨i, hi⟩ := info_of_underlying Tryd.underlying53
  rw [run_equalIn_array w (d + 2) (TV l) (TV m) (n := 9) (e := 53) (by kernel_rfl) hi, show Tryd.prog.cellsOf 53 = 7 by kernel_rfl]
  rw [items53 w d l m hl hm (List.range 9) (fun i hi => List.mem_range.1 hi), segs_eq hl hm]
theorem fields51' : (Tryd.prog.fieldsOf 51).toList = [{ name := "Idle", type := 3, offset := 0, embedded := false, tag := "", pkgPath := "", byteOffset := 0 }, { name := "Kinds", type := 49, offset := 1, embedded := false, tag := "", pkgPath := "", byteOffset := 8 }] := by kernel_rfl
theorem fields56' : (Tryd.prog.fieldsOf 56).toList = [{ name := "Idle", type := 3, offset := 0, embedded := false, tag := "", pkgPath := "", byteOffset := 0 }, { name := "Kinds", type := 54, offset := 1, embedded := false, tag := "", pkgPath := "", byteOffset := 8 }] := by kernel_rfl
theorem TV_ext63 (m : List Int) (h : m.length = 64) : (TV m).extract 1 (1 + 63) = TV (m.drop 1) := by
  rw [show (TV m).extract 1 (1 + 63) = TV ((m.drop 1).take 63) by simp [TV, List.map_take, List.map_drop], List.take_of_length_le (by simp; omega)]
theorem eq51 (d : Nat) (l m : List Int) (hl : l.length = 64) (hm : m.length = 64) (w : World) : (Op.equalIn (d + 4) 51 (.agg (TV l)) (.agg (TV m))).run Tryd.prog w = .ok (decide (l = m)) w := by
  rw [run_equalIn_struct w (d + 3) 51 _ _ (by kernel_rfl) (by kernel_rfl), fields51']
  have hs : ∀ w : World, (sizeOf 49).run Tryd.prog w = .ok 63 w := fun w => by kernel_rfl
  have pl : ∀ w : World, (part 49 (TV l) 1).run Tryd.prog w = .ok (.agg (TV (l.drop 1))) w := fun w => by simp [part, isAgg, run_underlying Tryd.underlying49, hs, TV_ext63 l hl]
  have pm : ∀ w : World, (part 49 (TV m) 1).run Tryd.prog w = .ok (.agg (TV (m.drop 1))) w := fun w => by simp [part, isAgg, run_underlying Tryd.underlying49, hs, TV_ext63 m hm]
  have e49 := fun w => eq49 d (l.drop 1) (m.drop 1) (by simp; omega) (by simp; omega) w
  have key : decide (l = m) = (l.getD 0 0 == m.getD 0 0 && decide (l.drop 1 = m.drop 1)) := by
    apply Bool.eq_iff_iff.2
    cases l with
    | nil => simp at hl
    | cons x r => cases m with
      | nil => simp at hm
      | cons y s => simp
  rw [key]
  have p3l := fun w => part3 l 0 (by omega) w
  have p3m := fun w => part3 m 0 (by omega) w
  generalize decide (l.drop 1 = m.drop 1) = z at e49 ⊢
  generalize l.getD 0 0 = x at p3l ⊢
  generalize m.getD 0 0 = y at p3m ⊢
  generalize l.drop 1 = lt at pl e49
  generalize m.drop 1 = mt at pm e49
  cases h1 : (x == y)
  · simp [Op.eqFields, p3l, p3m, q3, h1]
  · cases z <;> simp [Op.eqFields, p3l, p3m, q3, h1, pl, pm, e49]
theorem eq56 (d : Nat) (l m : List Int) (hl : l.length = 64) (hm : m.length = 64) (w : World) : (Op.equalIn (d + 4) 56 (.agg (TV l)) (.agg (TV m))).run Tryd.prog w = .ok (decide (l = m)) w := by
  rw [run_equalIn_struct w (d + 3) 56 _ _ (by kernel_rfl) (by kernel_rfl), fields56']
  have hs : ∀ w : World, (sizeOf 54).run Tryd.prog w = .ok 63 w := fun w => by kernel_rfl
  have pl : ∀ w : World, (part 54 (TV l) 1).run Tryd.prog w = .ok (.agg (TV (l.drop 1))) w := fun w => by simp [part, isAgg, run_underlying Tryd.underlying54, hs, TV_ext63 l hl]
  have pm : ∀ w : World, (part 54 (TV m) 1).run Tryd.prog w = .ok (.agg (TV (m.drop 1))) w := fun w => by simp [part, isAgg, run_underlying Tryd.underlying54, hs, TV_ext63 m hm]
  have e49 := fun w => eq54 d (l.drop 1) (m.drop 1) (by simp; omega) (by simp; omega) w
  have key : decide (l = m) = (l.getD 0 0 == m.getD 0 0 && decide (l.drop 1 = m.drop 1)) := by
    apply Bool.eq_iff_iff.2
    cases l with
    | nil => simp at hl
    | cons x r => cases m with
      | nil => simp at hm
      | cons y s => simp
  rw [key]
  have p3l := fun w => part3 l 0 (by omega) w
  have p3m := fun w => part3 m 0 (by omega) w
  generalize decide (l.drop 1 = m.drop 1) = z at e49 ⊢
  generalize l.getD 0 0 = x at p3l ⊢
  generalize m.getD 0 0 = y at p3m ⊢
  generalize l.drop 1 = lt at pl e49
  generalize m.drop 1 = mt at pm e49
  cases h1 : (x == y)
  · simp [Op.eqFields, p3l, p3m, q3, h1]
  · cases z <;> simp [Op.eqFields, p3l, p3m, q3, h1, pl, pm, e49]
theorem exec_eq48 {o : Oper} {a : Act} {w : World} (p q : Operand) (ho : o.op = .binOp .eql 48 p q 48) (l m : List Int) (hp : a.eval p = .agg (TV l)) (hq : a.eval q = .agg (TV m)) (hl : l.length = 7) (hm : m.length = 7) (z : Bool) (hz : decide (l = m) = z) : (execOp a.eval o).run Tryd.prog w = .ok (.value (.bool z)) w := by
  have h := eq48 (10000 - 2) l m hl hm w
  unfold execOp
  simp only [ho, hp, hq]
  have g : ∀ op, (eqGuard op 48 p q (.agg (TV l)) (.agg (TV m))).run Tryd.prog w = .ok () w := fun op => run_eqGuard_agg w op 48 p q _ _ (by kernel_rfl)
  rw [hz] at h
  simp [g, Go.binOp, Op.binOp, Op.equal, Op.maxDepth, h]
theorem exec_eq51 {o : Oper} {a : Act} {w : World} (p q : Operand) (ho : o.op = .binOp .eql 51 p q 51) (l m : List Int) (hp : a.eval p = .agg (TV l)) (hq : a.eval q = .agg (TV m)) (hl : l.length = 64) (hm : m.length = 64) (z : Bool) (hz : decide (l = m) = z) : (execOp a.eval o).run Tryd.prog w = .ok (.value (.bool z)) w := by
  have h := eq51 (10000 - 4) l m hl hm w
  unfold execOp
  simp only [ho, hp, hq]
  have g : ∀ op, (eqGuard op 51 p q (.agg (TV l)) (.agg (TV m))).run Tryd.prog w = .ok () w := fun op => run_eqGuard_agg w op 51 p q _ _ (by kernel_rfl)
  rw [hz] at h
  simp [g, Go.binOp, Op.binOp, Op.equal, Op.maxDepth, h]
theorem exec_ne51 {o : Oper} {a : Act} {w : World} (p q : Operand) (ho : o.op = .binOp .neq 51 p q 51) (l m : List Int) (hp : a.eval p = .agg (TV l)) (hq : a.eval q = .agg (TV m)) (hl : l.length = 64) (hm : m.length = 64) (z : Bool) (hz : decide (l = m) = z) : (execOp a.eval o).run Tryd.prog w = .ok (.value (.bool (!z))) w := by
  have h := eq51 (10000 - 4) l m hl hm w
  unfold execOp
  simp only [ho, hp, hq]
  have g : ∀ op, (eqGuard op 51 p q (.agg (TV l)) (.agg (TV m))).run Tryd.prog w = .ok () w := fun op => run_eqGuard_agg w op 51 p q _ _ (by kernel_rfl)
  rw [hz] at h
  simp [g, Go.binOp, Op.binOp, Op.equal, Op.maxDepth, h]
theorem exec_ne56 {o : Oper} {a : Act} {w : World} (p q : Operand) (ho : o.op = .binOp .neq 56 p q 56) (l m : List Int) (hp : a.eval p = .agg (TV l)) (hq : a.eval q = .agg (TV m)) (hl : l.length = 64) (hm : m.length = 64) (z : Bool) (hz : decide (l = m) = z) : (execOp a.eval o).run Tryd.prog w = .ok (.value (.bool (!z))) w := by
  have h := eq56 (10000 - 4) l m hl hm w
  unfold execOp
  simp only [ho, hp, hq]
  have g : ∀ op, (eqGuard op 56 p q (.agg (TV l)) (.agg (TV m))).run Tryd.prog w = .ok () w := fun op => run_eqGuard_agg w op 56 p q _ _ (by kernel_rfl)
  rw [hz] at h
  simp [g, Go.binOp, Op.binOp, Op.equal, Op.maxDepth, h]
end Go.Proofs.YtcncndhoeiaoeaaDoor.PTallyExact

