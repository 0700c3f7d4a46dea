import Derived.Test.YtinmmnljicmppaaDoorVTaleB
import Derived.Test.YtinmmnljicmppaaDoorVTalePa
import Derived.Test.YtinmmnljicmppaaDoorVTalePb
/-
Walks over whole variables; regions that draw their order.
-/
namespace Go.Proofs.YtinmmnljicmppaaDoor.PTaleApart
open Go Go.RowKit Go.Proofs.YtinmmnljicmppaaDoorW.PrintWords Go.Proofs.YtinmmnljicmppaaDoorW.PrintLast Go.Proofs.YtinmmnljicmppaaDoorW.PrintMore
set_option linter.unusedVariables false
set_option linter.unusedSimpArgs false
theorem blk_new2 (w : World) (o1 o2 : Obj) : ((w.alloc o1).alloc o2).heap[w.heap.size + 1]? = some o2 := by have := blk_new (w.alloc o1) o2; simpa using this
section
variable {P : Program} {ops : Array Oper} {rest : List Oper} {o : Oper} {a : Act} {Q : Exit → Act → World → Prop}
theorem store_whole {w W : World} {B : Nat} (hN : o.dst = none) (hgd : o.guard = none) (t : TypeId) (p x : Operand) (ho : o.op = .store t p x) {g e : Nat} {cur cs : Array Value} (haddr : a.eval p = .pointer (some ⟨g, 0, none⟩)) (u : Value) (hx : a.eval x = u)
  (hu : u.cells.toList = cs.toList) (ht : (P.info? t).map (·.size) = some cs.toList.length) (h1 : ∀ q ∈ cs.toList, q.oneCell' = true) (hh : W.heap[g]? = some (.cells cur e (0, 0))) (hs : cur.size = cs.size) (hg : B ≤ g) (HB : Below B w W)
  (h : ∀ w1, w1.heap[g]? = some (.cells cs e (0, 0)) → Below B w w1 → (∀ k, k ≠ g → w1.heap[k]? = W.heap[k]?) → w1.heap.size = W.heap.size → wpList P ops Q rest a w1) : wpList P ops Q (o :: rest) a W := by
 have hrun : (Instr.storeAt t (.pointer (some ⟨g, 0, none⟩)) u).run P W = .ok () (W.setCells g 0 cs.toList) := run_store_run t u cs.toList hh hu ht (by rw [Array.length_toList]; omega) h1
 obtain ⟨cur', hc1, hc2, hc3⟩ := setCells_row cs.toList 0 W cur hh (by rw [Array.length_toList]; omega)
 have hcc : cur' = cs := by
  apply Array.ext'
  rw [hc3]
  simp
  omega
 rw [hcc] at hc1
 obtain ⟨s1, s2, s3, s4⟩ := setCells_same g cs.toList 0 W
 have hB : Below B w (W.setCells g 0 cs.toList) := HB.trans ⟨s1, s2, s3, by omega, fun k hk => setCells_far cs.toList 0 k (by omega)⟩
 refine wpList_plain hgd fun K hK => ?_
 unfold Oper.wp execOp
 simp only [ho, haddr, hx, Sem.run_bind, Sem.run_pure, Result.andThen_ok, hrun]
 show K (a.put o.dst undef) _
 rw [hN]
 exact hK a _ (h _ hc1 hB (fun k hk => setCells_far cs.toList 0 k hk) s4)
theorem exec_load_row {P : Program} {o : Oper} {a : Act} {w : World} (ty : TypeId) (x : Operand) (ho : o.op = .load ty x)
  (g : Nat) (hx : a.eval x = .pointer (some ⟨g, 0, none⟩)) (t : TypeId) (cs : Array Value) (fr : Nat × Nat) (d : TypeDesc) (hg : w.heap[g]? = some (.cells cs t fr))
  (hu : P.underlying ty = some d) (hd : (match d with | .struct _ | .array _ _ => true | _ => false) = true) (hi : (P.info? ty).map (·.size) = some cs.size) :
  (execOp a.eval o).run P w = .ok (.value (.agg cs)) w := by
 unfold execOp
 simp only [ho, hx, Instr.loadAt, Instr.sureAddr, Sem.run_bind, Sem.run_pure, Result.andThen_ok, run_loadVar_row w g t ty cs fr d hg hu hd hi]
theorem wpList_load_row_g {P : Program} {ops : Array Oper} {rest : List Oper} {o : Oper} {a : Act} {w : World} {Q : Exit → Act → World → Prop} (hw : Region.wanted o (yielded ops a.tmps) = true) (ty : TypeId) (x : Operand) (ho : o.op = .load ty x)
  (g : Nat) (hx : a.eval x = .pointer (some ⟨g, 0, none⟩)) (t : TypeId) (cs : Array Value) (fr : Nat × Nat) (d : TypeDesc) (hg : w.heap[g]? = some (.cells cs t fr))
  (hu : P.underlying ty = some d) (hd : (match d with | .struct _ | .array _ _ => true | _ => false) = true) (hi : (P.info? ty).map (·.size) = some cs.size) (h : wpList P ops Q rest (a.put o.dst (.agg cs)) w) : wpList P ops Q (o :: rest) a w :=
 wpList_step fun K hK => by
  rw [if_pos hw]
  unfold Oper.wp
  rw [exec_load_row ty x ho g hx t cs fr d hg hu hd hi]
  exact hK _ _ h
theorem wpLd {P : Program} {ops : Array Oper} {rest : List Oper} {d : Option Tmp} {t2 : TypeId} {ps : String} {af : Array Edge} {gd : Option (Nat × Bool)} {a : Act} {w : World} {Q : Exit → Act → World → Prop} (ty : TypeId) (x : Operand) (h : wpList P ops Q (⟨d, .load ty x, t2, ps, af, gd⟩ :: rest) a w) : wpList P ops Q (⟨d, .load ty x, t2, ps, af, gd⟩ :: rest) a w := h
theorem wpSt {P : Program} {ops : Array Oper} {rest : List Oper} {d : Option Tmp} {t2 : TypeId} {ps : String} {af : Array Edge} {gd : Option (Nat × Bool)} {a : Act} {w : World} {Q : Exit → Act → World → Prop} (ty : TypeId) (x y : Operand) (h : wpList P ops Q (⟨d, .store ty x y, t2, ps, af, gd⟩ :: rest) a w) : wpList P ops Q (⟨d, .store ty x y, t2, ps, af, gd⟩ :: rest) a w := h
end
end Go.Proofs.YtinmmnljicmppaaDoor.PTaleApart
namespace Go.Proofs.YtinmmnljicmppaaDoor.PTaleApart
open Go Go.RowKit Go.Proofs.YtinmmnljicmppaaDoorW.PrintWords Go.Proofs.YtinmmnljicmppaaDoorW.PrintLast Go.Proofs.YtinmmnljicmppaaDoorW.PrintMore
set_option linter.unusedVariables false
set_option linter.unusedSimpArgs false
theorem last_weak {P : Program} {md : Region.Mode} {ops : Array Oper} {Q : Exit → Act → World → Prop} {S1 S2 : World → Prop} (hS : ∀ w, S2 w → S1 w) : ∀ (fuel : Nat) (l : Array Bool) (a : Act) (w : World), S2 w → wpAnyLast P md ops Q S2 [] fuel l a w → wpAnyLast P md ops Q S1 [] fuel l a w
 | 0, _, _, _, _, h => h
 | fuel + 1, l, a, w, h2, h => ⟨h.1, fun i hi => wpOp_mono (fun a' w' h' => ⟨fun hd _ => hS _ (h'.1 hd h2), last_weak hS fuel _ a' w' (h'.1 (by simp) h2) h'.2⟩) (h.2 i hi)⟩
theorem last_more {P : Program} {md : Region.Mode} {ops : Array Oper} {Q : Exit → Act → World → Prop} {S1 S2 : World → Prop} (hS : ∀ w, S2 w → S1 w) {fuel : Nat} {l : Array Bool} {a : Act} {w : World} (h2 : S2 w) (h : S2 w → wpAnyLast P md ops Q S2 [] fuel l a w) : wpAnyLast P md ops Q S1 [] fuel l a w :=
 last_weak hS fuel l a w h2 (h h2)
end Go.Proofs.YtinmmnljicmppaaDoor.PTaleApart
