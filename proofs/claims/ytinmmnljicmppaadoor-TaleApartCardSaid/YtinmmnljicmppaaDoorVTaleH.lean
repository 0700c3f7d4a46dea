import Derived.Test.YtinmmnljicmppaaDoorVTaleG
/-
A row that is filled by copies of itself.
-/
namespace Go.Proofs.YtinmmnljicmppaaDoor.PTaleApart
open Go Go.RowKit Go.Proofs.YtinmmnljicmppaaDoorW.PrintWords Go.Proofs.YtinmmnljicmppaaDoorW.PrintLast Go.Proofs.YtinmmnljicmppaaDoorW.PrintMore Go.Proofs.YtinmmnljicmppaaDoor.Str
set_option linter.unusedVariables false
set_option linter.unusedSimpArgs false
theorem below_setR {B g : Nat} {w0 w : World} (h : Below B w0 w) (hg : B ≤ g) (cs : Array Value) : Below B w0 (w.setRow g cs) :=
 ⟨h.os, h.tape, h.output, by rw [size_setRow]; exact h.size, fun k hk => (setRow_other w g k cs (by omega)).trans (h.block k hk)⟩
def ci (l : List Int) : List Value := l.map (fun y => Value.int .i64 y)
def fillC (x : Int) (m n : Nat) (tail : List Value) : List Value := ci (List.replicate m x ++ List.replicate (n - m) 0) ++ tail
theorem fill_len (x : Int) (m n : Nat) (tail : List Value) (h : m ≤ n) : (fillC x m n tail).length = n + tail.length := by simp [fillC, ci]; omega
theorem fill_step (x : Int) (m n : Nat) (tail : List Value) (h : m ≤ n) : (fillC x m n tail).take m ++ ci (List.replicate (min m (n - m)) x) ++ (fillC x m n tail).drop (m + min m (n - m)) = fillC x (m + min m (n - m)) n tail := by
 have e1 : (fillC x m n tail).take m = ci (List.replicate m x) := by
  unfold fillC ci
  rw [List.map_append, List.append_assoc, List.take_append_of_le_length (by simp), List.take_of_length_le (by simp)]
 have e2 : (fillC x m n tail).drop (m + min m (n - m)) = ci (List.replicate (n - (m + min m (n - m))) 0) ++ tail := by
  unfold fillC ci
  rw [← List.drop_drop, List.map_append, List.append_assoc]
  rw [show (List.map (fun y => Value.int .i64 y) (List.replicate m x) ++ (List.map (fun y => Value.int .i64 y) (List.replicate (n - m) 0) ++ tail)).drop m = List.map (fun y => Value.int .i64 y) (List.replicate (n - m) 0) ++ tail by
   rw [List.drop_append_of_le_length (by simp), List.drop_eq_nil_of_le (by simp), List.nil_append]]
  rw [List.drop_append_of_le_length (by simp; omega)]
  congr 1
  rw [← List.map_drop, List.drop_replicate]
  congr 2; omega
 rw [e1, e2]
 unfold fillC ci
 simp only [List.map_append, List.map_replicate, ← List.append_assoc, List.append_cancel_right_eq, List.replicate_append_replicate]
theorem exec_copy1 {o : Oper} {a : Act} {W : World} (d s : Operand) (ho : o.op = .call { callee := .builtin .copy, args := #[d, s], argTypes := #[34, 34] }) {g m n c : Nat} {x : Int} {tail : List Value} {cur : Array Value} (hm : 1 ≤ m) (hmn : m ≤ n)
  (hd : a.eval d = .slice (some ⟨g, m, none⟩) (n - m) (c - m)) (hs : a.eval s = .slice (some ⟨g, 0, none⟩) m c) (hc : cur.toList = fillC x m n tail) (hg : W.heap[g]? = some (.cells cur 3 (0, 0))) :
  (execOp a.eval o).run Tryd.prog W = .ok (.value (.int .i64 ((min m (n - m) : Nat) : Int))) (W.setRow g (fillC x (m + min m (n - m)) n tail).toArray) := by
 have hcs : (ci (List.replicate (min m (n - m)) x)).length = Nat.min m (n - m) := by simp [ci]
 have hfit : m + (ci (List.replicate (min m (n - m)) x)).length ≤ cur.size := by
  have := fill_len x m n tail hmn
  rw [← hc, Array.length_toList] at this
  rw [hcs]
  have h2 : Nat.min m (n - m) ≤ n - m := Nat.min_le_right _ _
  omega
 have hr := run_copy_row (P := Tryd.prog) W 34 34 o.type 3 g m (n - m) (c - m) ⟨g, 0, none⟩ m c cur 3 (ci (List.replicate (min m (n - m)) x)) Tryd.underlying34 (by kernel_rfl) hg hcs (fun j v hj => by
  rw [add_pl, Nat.zero_add, blk_cell hg]
  unfold ci at hj
  rw [List.getElem?_map] at hj
  obtain ⟨y, hy, rfl⟩ := Option.map_eq_some_iff.1 hj
  obtain ⟨hlt, rfl⟩ := List.getElem?_eq_some_iff.1 hy
  have hjm : j < m := by
   rw [List.length_replicate] at hlt
   have : min m (n - m) ≤ m := Nat.min_le_left _ _
   omega
  rw [← Array.getElem?_toList, hc]
  unfold fillC ci
  rw [List.getElem?_append_left (by simp; omega), List.getElem?_map, List.getElem?_append_left (by simpa using hjm), List.getElem?_replicate, if_pos hjm]
  simp) hfit (fun v hv => by
  obtain ⟨y, _, rfl⟩ := List.mem_map.1 hv
  rfl)
 rw [hc, hcs, show Nat.min m (n - m) = min m (n - m) from rfl, fill_step x m n tail hmn] at hr
 unfold execOp
 simp only [ho, resolve, invoke, builtin, Sem.run_bind, Sem.run_pure, Result.andThen_ok, List.map_toArray, List.map_cons, List.map_nil, hd, hs, hr]
 rfl
end Go.Proofs.YtinmmnljicmppaaDoor.PTaleApart
