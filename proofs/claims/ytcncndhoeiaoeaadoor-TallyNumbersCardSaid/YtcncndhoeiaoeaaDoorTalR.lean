/-
Two tallies in a row.
-/
import Derived.Test.YtcncndhoeiaoeaaDoorTalB
namespace Go.Proofs.YtcncndhoeiaoeaaDoor.PTallyExact
open Go Go.RowKit Go.Proofs.YtcncndhoeiaoeaaDoorW.PrintWords Go.Proofs.YtcncndhoeiaoeaaDoorW.PrintLast Go.Proofs.YtcncndhoeiaoeaaDoorW.PrintMore
set_option linter.unusedVariables false
set_option linter.unusedSimpArgs false
theorem fold_get (off : Nat) : ∀ (l : List Value) (k : Nat) (cs : Array Value) (i : Nat), ((l.zipIdx k).foldl (fun cs (x : Value × Nat) => cs.setIfInBounds (off + x.2) x.1) cs).size = cs.size ∧
    ((l.zipIdx k).foldl (fun cs (x : Value × Nat) => cs.setIfInBounds (off + x.2) x.1) cs)[i]? = if off + k ≤ i ∧ i < off + k + l.length ∧ i < cs.size then l[i - (off + k)]? else cs[i]?
  | [], k, cs, i => ⟨rfl, by simp only [List.zipIdx_nil, List.foldl_nil, List.length_nil]; rw [if_neg (by omega)]⟩
  | x :: r, k, cs, i => by
    rw [List.zipIdx_cons, List.foldl_cons]
    obtain ⟨h1, h2⟩ := fold_get off r (k + 1) (cs.setIfInBounds (off + k) x) i
    refine ⟨by rw [h1]; simp, ?_⟩
    rw [h2]
    simp only [Array.size_setIfInBounds, List.length_cons]
    by_cases hi : i = off + k
    · subst hi
      rw [if_neg (by omega)]
      by_cases hs : off + k < cs.size
      · rw [if_pos (by omega), Nat.sub_self]
        simp [hs]
      · rw [if_neg (by omega)]
        simp [hs]
    · by_cases hc : off + (k + 1) ≤ i ∧ i < off + (k + 1) + r.length ∧ i < cs.size
      · rw [if_pos hc, if_pos (by omega), show i - (off + k) = i - (off + (k + 1)) + 1 by omega, List.getElem?_cons_succ]
      · rw [if_neg hc, if_neg (by omega), Array.getElem?_setIfInBounds_ne (by omega)]
theorem fold_two (l m : List Int) (hl : l.length = 64) (hm : m.length = 64) (Z : Array Value) (hz : Z.size = 128) :
    Array.foldl (fun cs (x : Value × Nat) => cs.setIfInBounds (64 + x.2) x.1) (Array.foldl (fun cs (x : Value × Nat) => cs.setIfInBounds (0 + x.2) x.1) Z (TV l).zipIdx) (TV m).zipIdx = TV [l, m].flatten := by
  have hL : (TV l).zipIdx.toList = (l.map (fun x => Value.int .i64 x)).zipIdx := by simp [TV]
  have hM : (TV m).zipIdx.toList = (m.map (fun x => Value.int .i64 x)).zipIdx := by simp [TV]
  rw [← Array.foldl_toList, ← Array.foldl_toList, hL, hM]
  have h1 := fun i => fold_get 0 (l.map (fun x => Value.int .i64 x)) 0 Z i
  have h2 := fun i => fold_get 64 (m.map (fun x => Value.int .i64 x)) 0 ((l.map (fun x => Value.int .i64 x)).zipIdx.foldl (fun cs (x : Value × Nat) => cs.setIfInBounds (0 + x.2) x.1) Z) i
  apply Array.ext_getElem?
  intro i
  rw [(h2 i).2, (h1 i).2, (h1 0).1, hz]
  show _ = ((([l, m].flatten).map (fun x => Value.int .i64 x)).toArray)[i]?
  simp only [List.flatten_cons, List.flatten_nil, List.append_nil, List.map_append, List.getElem?_toArray, List.length_map, hl, hm]
  by_cases h64 : i < 64
  · rw [if_neg (by omega), if_pos (by omega), List.getElem?_append_left (by simp; omega)]
    simp
  · rw [List.getElem?_append_right (by simp; omega)]
    by_cases h128 : i < 128
    · rw [if_pos (by omega)]; simp [hl]
    · rw [if_neg (by omega), if_neg (by omega), List.getElem?_eq_none (by simp; omega), Array.getElem?_eq_none (by omega)]
theorem fold_one (l : List Int) (hl : l.length = 64) (Z : Array Value) : (Array.foldl (fun cs (x : Value × Nat) => cs.setIfInBounds (0 + x.2) x.1) Z (TV l).zipIdx).size = Z.size := by
  have hL : (TV l).zipIdx.toList = (l.map (fun x => Value.int .i64 x)).zipIdx := by simp [TV]
  rw [← Array.foldl_toList, hL]
  exact (fold_get 0 _ 0 Z 0).1
theorem exec_two {o : Oper} {a : Act} {w : World} (x y : Operand) (ho : o.op = .buildSlice 90 2 #[(0, x), (1, y)]) (l m : List Int) (hx : a.eval x = .agg (TV l)) (hy : a.eval y = .agg (TV m)) (hl : l.length = 64) (hm : m.length = 64) :
    (execOp a.eval o).run Tryd.prog w = .ok (.value (.slice (some ⟨w.heap.size, 0, none⟩) 2 2)) (w.alloc (.cells (TV (l ++ m)) 51)) := by
  rw [← show [l, m].flatten = l ++ m by simp]
  have hts : (TV l).size = 64 := by rw [TV_size, hl]
  have htm : (TV m).size = 64 := by rw [TV_size, hm]
  have hu := Tryd.underlying90
  have hu51 := Tryd.underlying51
  unfold execOp
  simp only [ho, hx, hy]
  have hsz : ∀ w : World, (sizeOf 51).run Tryd.prog w = .ok 64 w := fun w => by kernel_rfl
  have hzv : ∀ w : World, (zeroValue 51).run Tryd.prog w = .ok (.agg #[.int .i64 0, .int .i64 0, .int .i64 0, .int .i64 0, .int .i64 0, .int .i64 0, .int .i64 0, .int .i64 0, .int .i64 0, .int .i64 0, .int .i64 0, .int .i64 0, .int .i64 0, .int .i64 0, .int .i64 0, .int .i64 0, .int .i64 0, .int .i64 0, .int .i64 0, .int .i64 0, .int .i64 0, .int .i64 0, .int .i64 0, .int .i64 0, .int .i64 0, .int .i64 0, .int .i64 0, .int .i64 0, .int .i64 0, .int .i64 0, .int .i64 0, .int .i64 0, .int .i64 0, .int .i64 0, .int .i64 0, .int .i64 0, .int .i64 0, .int .i64 0, .int .i64 0, .int .i64 0, .int .i64 0, .int .i64 0, .int .i64 0, .int .i64 0, .int .i64 0, .int .i64 0, .int .i64 0, .int .i64 0, .int .i64 0, .int .i64 0, .int .i64 0, .int .i64 0, .int .i64 0, .int .i64 0, .int .i64 0, .int .i64 0, .int .i64 0, .int .i64 0, .int .i64 0, .int .i64 0, .int .i64 0, .int .i64 0, .int .i64 0, .int .i64 0]) w := fun w => by kernel_rfl
  generalize hZ : (#[.int .i64 0, .int .i64 0, .int .i64 0, .int .i64 0, .int .i64 0, .int .i64 0, .int .i64 0, .int .i64 0, .int .i64 0, .int .i64 0, .int .i64 0, .int .i64 0, .int .i64 0, .int .i64 0, .int .i64 0, .int .i64 0, .int .i64 0, .int .i64 0, .int .i64 0, .int .i64 0, .int .i64 0, .int .i64 0, .int .i64 0, .int .i64 0, .int .i64 0, .int .i64 0, .int .i64 0, .int .i64 0, .int .i64 0, .int .i64 0, .int .i64 0, .int .i64 0, .int .i64 0, .int .i64 0, .int .i64 0, .int .i64 0, .int .i64 0, .int .i64 0, .int .i64 0, .int .i64 0, .int .i64 0, .int .i64 0, .int .i64 0, .int .i64 0, .int .i64 0, .int .i64 0, .int .i64 0, .int .i64 0, .int .i64 0, .int .i64 0, .int .i64 0, .int .i64 0, .int .i64 0, .int .i64 0, .int .i64 0, .int .i64 0, .int .i64 0, .int .i64 0, .int .i64 0, .int .i64 0, .int .i64 0, .int .i64 0, .int .i64 0, .int .i64 0] : Array Value) = Z at hzv
  have hzs : Z.size = 64 := by rw [← hZ]; rfl
  have hms : (Array.map (fun x => Z[x % Z.size]!) (Array.range 128)).size = 128 := by simp
  have hf := fold_two l m hl hm _ hms
  have hf1 := fold_one l hl (Array.map (fun x => Z[x % Z.size]!) (Array.range 128))
  rw [hms] at hf1
  simp only [Nat.zero_add] at hf hf1
  have c1 : (Value.agg (TV l)).cells = TV l := rfl
  have c2 : (Value.agg (TV m)).cells = TV m := rfl
  have c3 : (Value.agg Z).cells = Z := rfl
  clear hZ
  simp only [Array.size_zipIdx, hts, htm, hzs] at hf hf1
  have hnr : ∀ X, (newRow 51 X).run Tryd.prog w = .ok ⟨w.heap.size, 0, none⟩ (w.alloc (.cells X 51)) := fun X => rfl
  simp [Instr.buildSlice, run_underlying hu, hsz, hzv, Instr.fill, hx, hy, c1, c2, c3, hts, htm, hzs, hf, hf1, hnr]
end Go.Proofs.YtcncndhoeiaoeaaDoor.PTallyExact

