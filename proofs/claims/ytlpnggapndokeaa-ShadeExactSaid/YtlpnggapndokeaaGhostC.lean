/-
Copies of a map, and whether two are the same; a watched world and a plain one, told of each other.
-/
import Derived.Maps.RangeRun
import Derived.Maps.Range
import Derived.Laws.Externs
import Derived.Test.YtlpnggapndokeaaGhostB
import Derived.Test.YtlpnggapndokeaaGhostKinds
namespace Go.Proofs.Ytlpnggapndokeaa.PIdealKeeps
open Go Go.RowKit Go.Proofs.YtlpnggapndokeaaW.PrintWords Go.Proofs.YtlpnggapndokeaaW.PrintLast Go.Proofs.YtlpnggapndokeaaW.PrintMore Go.Proofs.Ytlpnggapndokeaa.M
attribute [local go_sem] max2_int min2_int max_two min_two max_three min_three max_four min_four
set_option linter.unusedVariables false
set_option linter.unusedSimpArgs false
theorem len_map {t k e : TypeId} {ek : K3 → Value} {ev : Int → Value} {w : World} {b : Nat} {m : List (K3 × Int)} (h : MapIs ek ev w b m) (ht : Try.prog.underlying t = some (.map k e)) (ty : TypeId) : (Builtin.len_ #[t] ty #[.map (some b)]).run Try.prog w = .ok (.int .i64 (m.length : Int)) w := by
  obtain ⟨es, c, hb, he, _⟩ := h
  have hl : es.size = m.length := by
    have := congrArg List.length he.1
    simpa using this
  simp [Builtin.len_, run_underlying ht, MapKept.run_getObj_map hb, goInt, Result.andThen, hl]
set_option maxHeartbeats 4000000 in
set_option maxRecDepth 100000 in
theorem mapsEqual_T (b1 b2 : Nat) (m1 m2 : List (K3 × Int)) (w : World) (h1 : MapIs eP eU w b1 m1) (h2 : MapIs eP eU w b2 m2) (hlen : m1.length = m2.length) (hin : ∀ p, p ∈ m1 → get m2 p.1 = some p.2) :
    Calls Try.prog 101 #[.map (some b1), .map (some b2)] w fun e w' => e = .returned (.bool true) ∧ Below w.heap.size w w' := by
  have hu23 := Try.underlying23
  have l1 := fun ty => len_map h1 Try.underlying129 ty
  have l2 := fun ty => len_map h2 Try.underlying129 ty
  have tl : ((m1.length : Int) != (m2.length : Int)) = false := by rw [hlen]; exact bne_self_eq_false _
  have H1 := Aside0.mk h1
  have H2 := Aside0.mk h2
  have HIN := Aside0.mk hin
  obtain ⟨es, cl, hb, he, hst⟩ := h1
  have hrg := run_range_map (P := Try.prog) w 129 23 26 b1 es cl Try.underlying129 hb
  have ST := Aside0.mk ((MapKept.stamped_iff es cl).1 hst)
  have HE := Aside0.mk he
  have HBK := Aside0.mk hb
  clear h2 hb he hst hin
  rw [hlen] at l1
  go_enter Try.func101, Try.ntmps101
  go_wp2_with fail
  have R0 := Aside0.mk (blk_new w (.mapIter (some b1) cl #[] cl))
  have B0 := Aside0.mk (below_alloc (Below.refl w.heap.size w) (.mapIter (some b1) cl #[] cl))
  generalize w.alloc (.mapIter (some b1) cl #[] cl) = w1 at *
  clear l1 l2 hrg tl
  go_loopw [18] (fun _ wr => ∃ (seen : Array Nat) (c0 : Nat), Aside0 (wr.heap[w.heap.size]? = some (.mapIter (some b1) cl seen c0)) ∧ Aside0 (cl ≤ c0) ∧ Aside0 (Below w.heap.size w wr)) (fun _ wr => wr.rangeLeft b1 w.heap.size)
  case atStart => exact ⟨#[], cl, R0, ⟨Nat.le_refl _⟩, B0⟩
  case round =>
    obtain ⟨seen, c0, HR, HC, HB⟩ := hrel
    have hb1 : wr.heap[b1]? = some (.map es cl) := blk_below HBK.out HB.out
    have hm0 : wr.rangeLeft b1 w.heap.size = (leftOf es seen).size := by simp [World.rangeLeft, hb1, HR.out]
    have HM0 := Aside0.mk hm0
    rcases run_next_at (P := Try.prog) wr 0 w.heap.size b1 cl c0 seen es cl HR.out hb1 ST.out.1 HC.out with ⟨h0, hrun⟩ | ⟨e, hel, w2, hw2, hrun⟩
    · clear hm0 h0
      go_wp2_with fail
      go_ret
      exact ⟨rfl, HB.out⟩
    · have hee := (mem_left hel).1
      obtain ⟨j, hj, hje⟩ := List.getElem_of_mem hee
      have hjm : j < m1.length := by
        have := congrArg List.length HE.out.1
        simp only [List.length_map] at this
        omega
      have hk : e.key = eP (m1[j]'hjm).1 := by
        have := congrArg (fun l => l[j]?) HE.out.1
        simpa [List.getElem?_map, List.getElem?_eq_getElem hj, List.getElem?_eq_getElem hjm, hje] using this
      have hv : e.val = eU (m1[j]'hjm).2 := by
        have := congrArg (fun l => l[j]?) HE.out.2
        simpa [List.getElem?_map, List.getElem?_eq_getElem hj, List.getElem?_eq_getElem hjm, hje] using this
      have hg := HIN.out _ (List.getElem_mem hjm)
      obtain ⟨p, hp⟩ : ∃ p, m1[j]'hjm = p := ⟨_, rfl⟩
      rw [hp] at hk hv hg
      obtain ⟨⟨pk, ps, pp⟩, x⟩ := p
      rw [hk, hv] at hrun
      have hh : w2.heap = wr.heap := by rcases hw2 with rfl | rfl <;> rfl
      have hrl : w.heap.size < wr.heap.size := blk_lt HR.out
      have N := Aside0.mk (show b1 ≠ w.heap.size from Nat.ne_of_lt (blk_lt HBK.out))
      have R1 := Aside0.mk (show (ChangeMaps.setBlock w2 w.heap.size (.mapIter (some b1) cl (seen.push e.born) cl)).heap[w.heap.size]? = some (.mapIter (some b1) cl (seen.push e.born) cl) by simp [ChangeMaps.setBlock, hh, hrl])
      have F1 := Aside0.mk (show ∀ k, k ≠ w.heap.size → (ChangeMaps.setBlock w2 w.heap.size (.mapIter (some b1) cl (seen.push e.born) cl)).heap[k]? = wr.heap[k]? by intro k hk; simp only [ChangeMaps.setBlock, hh]; exact Array.getElem?_setIfInBounds_ne (Ne.symm hk))
      have B1 := Aside0.mk (show Below w.heap.size w (ChangeMaps.setBlock w2 w.heap.size (.mapIter (some b1) cl (seen.push e.born) cl)) from ⟨(show _ = wr.os by rcases hw2 with rfl | rfl <;> rfl).trans HB.out.os, (show _ = wr.tape by rcases hw2 with rfl | rfl <;> rfl).trans HB.out.tape, (show _ = wr.output by rcases hw2 with rfl | rfl <;> rfl).trans HB.out.output, by simpa [ChangeMaps.setBlock, hh] using HB.out.size, fun k hk => (F1.out k (by omega)).trans (HB.out.block k hk)⟩)
      have hM : MapIs eP eU (ChangeMaps.setBlock w2 w.heap.size (.mapIter (some b1) cl (seen.push e.born) cl)) b2 m2 := H2.out.below B1.out
      have hent := run_entry_at (P := Try.prog) _ w.heap.size b1 cl seen es cl e R1.out ((F1.out b1 N.out).trans hb1) hee ST.out.2.1
      rw [hk, hv] at hent
      have hsm : (leftOf es (seen.push e.born)).size < (leftOf es seen).size := left_shrinks es seen e hel
      have SM := Aside0.mk hsm
      have hlk := M.look_ok (P := Try.prog) keyP Try.underlying129 0 (zU _) (hM.below (below_alloc (Below.refl _ _) (.cells #[.int .i64 pk, .int .i64 ps, .int .i64 pp] 23))) (pk, ps, pp)
      rw [hg] at hlk
      have HBE := Aside0.mk ((F1.out b1 N.out).trans hb1)
      generalize ChangeMaps.setBlock w2 w.heap.size (.mapIter (some b1) cl (seen.push e.born) cl) = w3 at *
      replace hrun : (Instr.next (.pointer (some ⟨w.heap.size, 0, none⟩)) false 0).run Try.prog wr = .ok (.tuple #[.bool true, .agg #[.int .i64 pk, .int .i64 ps, .int .i64 pp], .int .u64 x]) w3 := hrun
      replace hent : (Instr.entry (.pointer (some ⟨w.heap.size, 0, none⟩))).run Try.prog w3 = .ok (.tuple #[.agg #[.int .i64 pk, .int .i64 ps, .int .i64 pp], .int .u64 x]) w3 := hent
      replace hlk : (Instr.lookup 129 (.map (some b2)) (.agg #[.int .i64 pk, .int .i64 ps, .int .i64 pp]) true).run Try.prog (w3.alloc (.cells #[.int .i64 pk, .int .i64 ps, .int .i64 pp] 23)) = .ok (.tuple #[.int .u64 x, .bool true]) (w3.alloc (.cells #[.int .i64 pk, .int .i64 ps, .int .i64 pp] 23)) := hlk
      clear hm0 hb1 hel hw2 hee hj hje hk hv hg hp hh hrl hM hsm hjm
      go_wp2_with fail
      go_roundw
      case rel => exact ⟨_, cl, ⟨blk_alloc R1.out _⟩, ⟨Nat.le_refl _⟩, ⟨below_alloc B1.out _⟩⟩
      case measure =>
        have e1 : (w3.alloc (.cells #[.int .i64 pk, .int .i64 ps, .int .i64 pp] 23)).heap[b1]? = some (.map es cl) := blk_alloc HBE.out _
        have e2 : (w3.alloc (.cells #[.int .i64 pk, .int .i64 ps, .int .i64 pp] 23)).heap[w.heap.size]? = some (.mapIter (some b1) cl (seen.push e.born) cl) := blk_alloc R1.out _
        rw [HM0.out, World.rangeLeft, e1, e2]
        exact SM.out
end Go.Proofs.Ytlpnggapndokeaa.PIdealKeeps

namespace Go.Proofs.Ytlpnggapndokeaa.PIdealKeeps
open Go Go.RowKit Go.Proofs.YtlpnggapndokeaaW.PrintWords Go.Proofs.YtlpnggapndokeaaW.PrintLast Go.Proofs.YtlpnggapndokeaaW.PrintMore Go.Proofs.Ytlpnggapndokeaa.M
attribute [local go_sem] max2_int min2_int max_two min_two max_three min_three max_four min_four
set_option linter.unusedVariables false
set_option linter.unusedSimpArgs false
theorem map_eql_nil (w : World) (t k e : TypeId) (p : Option Nat) (h : Try.prog.underlying t = some (.map k e)) : (binOp .eql t (.map p) (.map none)).run Try.prog w = .ok (.bool p.isNone) w := by
  have h2 : ∀ d, (Op.equalIn (d + 1) t (.map p) (.map none)).run Try.prog w = .ok p.isNone w := by
    intro d
    cases p <;> simp [Op.equalIn, run_underlying h]
  simp only [binOp]
  simp [show Op.equal t (.map p) (.map none) = Op.equalIn (9999 + 1) t (.map p) (.map none) from rfl, h2 9999]
theorem map_assert (w : World) (t xT k e : TypeId) (v : Value) (h : Try.prog.underlying t = some (.map k e)) : (Instr.typeAssert (.iface t v) xT t false).run Try.prog w = .ok v w := by
  simp [Instr.typeAssert, run_underlying h, go_sem, Result.andThen]
theorem map_clone (w : World) {r : Nat} {es : Array MapEntry} {clock : Nat} (t : TypeId) (hb : w.heap[r]? = some (.map es clock)) :
    (Extern.MapsClone.clone #[.iface t (.map (some r))]).run Try.prog w = .ok (.iface t (.map (some w.heap.size))) (w.alloc (.map es clock)) := by
  have e : Extern.MapsClone.clone #[.iface t (.map (some r))] = (getObj r >>= fun o => match o with
      | .map entries clock => (newObj (.map entries clock) >>= fun n => pure (.iface t (.map (some n))))
      | _ => stuck "maps.clone: a map expected") := rfl
  rw [e]
  simp [MapKept.run_getObj_map hb, Result.andThen, go_sem]
set_option maxHeartbeats 4000000 in
set_option maxRecDepth 100000 in
theorem mapsClone_T (b : Nat) (m : List (K3 × Int)) (w : World) (h : MapIs eP eU w b m) :
    Calls Try.prog 112 #[.map (some b)] w fun e w' => e = .returned (.map (some w.heap.size)) ∧ MapIs eP eU w' w.heap.size m ∧ Below w.heap.size w w' := by
  obtain ⟨es, cl, hb, he⟩ := h
  have HB := Aside0.mk hb
  have HE := Aside0.mk he
  have hu129 := Try.underlying129
  have hq := fun w => map_eql_nil w 129 _ _ (some b) Try.underlying129
  clear hb he
  go_enter Try.func112, Try.ntmps112
  go_wp2
  rw [run_callFunc_extern Try.func116 (by kernel_rfl) (by kernel_rfl) (by kernel_rfl) (e := Extern.MapsClone.clone) (by kernel_rfl), map_clone w 129 HB.out]
  simp only [Result.andThen]
  rw [Oper.upon_value]
  go_wp2
  rw [map_assert _ 129 20 _ _ _ Try.underlying129]
  simp only [Result.andThen]
  rw [Oper.upon_value]
  go_wp2
  go_ret
  exact ⟨rfl, ⟨es, cl, blk_new w _, HE.out⟩, below_alloc (Below.refl _ _) _⟩
set_option maxHeartbeats 4000000 in
set_option maxRecDepth 100000 in
/-- A copy: the same words, no counts. -/
theorem ccopy_T (gc gm : Nat) (C : CSt) (w0 w : World) (hI : CellsIs w0 w gc gm C) :
    Calls Try.prog 102 #[.pointer (some ⟨gc, 0, none⟩)] w fun e w' => ∃ gd gn, e = .returned (.pointer (some ⟨gd, 0, none⟩)) ∧ CellsIs w w' gd gn { m := C.m, c1 := 0, c2 := 0, c3 := 0, c4 := 0, c5 := 0 } ∧ Below w.heap.size w w' := by
  have hu131 := Try.underlying131
  have HI := Aside0.mk hI
  have c0 : w.cell? ⟨gc, 0, none⟩ = some (.map (some gm)) := (blk_cell hI.blk 0).trans rfl
  clear hI
  go_enter Try.func102, Try.ntmps102
  go_wp2_with fail
  refine (mapsClone_T gm C.m w HI.out.map).mono ?_
  rintro e w1 ⟨rfl, h1, h2⟩
  have M1 := Aside0.mk (h1.below (below_alloc (Below.refl _ _) (.cells #[.map (some w.heap.size), .int .i64 0, .int .i64 0, .int .i64 0, .int .i64 0, .int .i64 0] 131)))
  have B1 := Aside0.mk (below_alloc h2 (.cells #[.map (some w.heap.size), .int .i64 0, .int .i64 0, .int .i64 0, .int .i64 0, .int .i64 0] 131))
  have SZ := Aside0.mk h2.size
  clear h1 h2
  go_wp2_with fail
  go_ret
  exact ⟨_, _, rfl, ⟨blk_new _ _, M1.out, HI.out.once, SZ.out, Nat.le_refl _⟩, B1.out⟩
def copyC (C : CSt) : CSt := { m := C.m, c1 := 0, c2 := 0, c3 := 0, c4 := 0, c5 := 0 }
set_option maxHeartbeats 4000000 in
set_option maxRecDepth 100000 in
theorem pcells_T (gp gc gm : Nat) (C : CSt) (w0 w : World) (hI : PlainIs w0 w gp gc gm C) :
    Calls Try.prog 53 #[.pointer (some ⟨gp, 0, none⟩)] w fun e w' => ∃ gd gn, e = .returned (.pointer (some ⟨gd, 0, none⟩)) ∧ CellsIs w w' gd gn (copyC C) ∧ Below w.heap.size w w' := by
  have HI := Aside0.mk hI
  clear hI
  go_enter Try.func53, Try.ntmps53
  go_wp2_with fail
  refine (pwords_T gp gc gm C w0 w HI.out).mono ?_
  rintro e w1 ⟨rfl, rfl⟩
  go_wp2_with fail
  refine (ccopy_T gc gm C w0 _ HI.out.cells).mono ?_
  rintro e w2 ⟨gd, gn, rfl, h1, h2⟩
  have R1 := Aside0.mk h1
  have R2 := Aside0.mk h2
  clear h1 h2
  go_wp2_with fail
  go_ret
  exact ⟨gd, gn, rfl, R1.out, R2.out⟩
set_option maxHeartbeats 4000000 in
set_option maxRecDepth 100000 in
theorem gcells_T (gg gp gc gm gl gs g3 : Nat) (G : GSt) (w0 w : World) (hI : GhostIs w0 w gg gp gc gm gl gs g3 G) :
    Calls Try.prog 51 #[.pointer (some ⟨gg, 0, none⟩)] w fun e w' => ∃ gd gn, e = .returned (.pointer (some ⟨gd, 0, none⟩)) ∧ CellsIs w w' gd gn (copyC G.p) ∧ Below w.heap.size w w' := by
  have HI := Aside0.mk hI
  clear hI
  go_enter Try.func51, Try.ntmps51
  go_wp2_with fail
  refine (gunder_T gg gp gc gm gl gs g3 G w0 w HI.out).mono ?_
  rintro e w1 ⟨rfl, rfl⟩
  go_wp2_with fail
  refine (pcells_T gp gc gm G.p w0 _ HI.out.plain).mono ?_
  rintro e w2 ⟨gd, gn, rfl, h1, h2⟩
  have R1 := Aside0.mk h1
  have R2 := Aside0.mk h2
  clear h1 h2
  go_wp2_with fail
  go_ret
  exact ⟨gd, gn, rfl, R1.out, R2.out⟩
theorem get_once {m : List (K3 × Int)} (h : Once m) : ∀ p, p ∈ m → get m p.1 = some p.2 := by
  induction m with
  | nil => intro p hp; cases hp
  | cons a r ih =>
    have h2 : a.1 ∉ r.map (·.1) ∧ Once r := by simpa [Once] using h
    intro p hp
    rcases List.mem_cons.1 hp with e | e
    · subst e
      rw [M.get, if_pos rfl]
    · rw [M.get, if_neg (fun q : p.1 = a.1 => h2.1 (by rw [← q]; exact List.mem_map.2 ⟨p, e, rfl⟩))]
      exact ih h2.2 p e
set_option maxHeartbeats 4000000 in
set_option maxRecDepth 100000 in
/-- Of the same words: yes. -/
theorem same_T (ga gm gb gn : Nat) (A B : CSt) (wa wb w : World) (hA : CellsIs wa w ga gm A) (hB : CellsIs wb w gb gn B) (hm : A.m = B.m) :
    Calls Try.prog 52 #[.pointer (some ⟨ga, 0, none⟩), .pointer (some ⟨gb, 0, none⟩)] w fun e w' => e = .returned (.bool true) ∧ Below w.heap.size w w' := by
  have hu131 := Try.underlying131
  have HA := Aside0.mk hA
  have HB := Aside0.mk hB
  have HM := Aside0.mk hm
  clear hA hB hm
  go_enter Try.func52, Try.ntmps52
  go_wp2_with fail
  refine start_ (n := 10) (S := fun w' => w'.cell? ⟨ga, 0, none⟩ = some (.map (some gm)) ∧ w'.cell? ⟨gb, 0, none⟩ = some (.map (some gn))) (ds := [8]) #[false, false, false, false, false, false, false, false, false, false] (by kernel_rfl) rfl rfl ⟨(blk_cell (blk_drew HA.out.blk) 0).trans rfl, (blk_cell (blk_drew HB.out.blk) 0).trans rfl⟩ (fun hHeld => ?_)
  refine pure_ (i := 0) (N := some 17) (v := ?_) (a' := ?_) #[true, false, false, false, false, false, false, false, false, false] rfl rfl (by kernel_rfl) (fun _ _ _ h => h) (Or.inl ⟨by rfl, ?_⟩) ?_ ?_
  rotate_left
  · intro w'
    go_simp
    with_reducible rfl
  rotate_left
  · simp only [Act.put, List.setIfInBounds_toArray, List.set_cons_zero, List.set_cons_succ, i64_w, i32_w]
    rfl
  refine pure_ (i := 1) (N := some 18) (v := ?_) (a' := ?_) #[true, true, false, false, false, false, false, false, false, false] rfl rfl (by kernel_rfl) (fun _ _ _ h => h) (Or.inl ⟨by rfl, ?_⟩) ?_ ?_
  rotate_left
  · intro w'
    go_simp
    with_reducible rfl
  rotate_left
  · simp only [Act.put, List.setIfInBounds_toArray, List.set_cons_zero, List.set_cons_succ, i64_w, i32_w]
    rfl
  refine pure_ (i := 2) (N := some 19) (v := ?_) (a' := ?_) #[true, true, true, false, false, false, false, false, false, false] rfl rfl (by kernel_rfl) (fun _ _ _ h => h) (Or.inl ⟨by rfl, ?_⟩) ?_ ?_
  rotate_left
  · intro w'
    go_simp
    with_reducible rfl
  rotate_left
  · simp only [Act.put, List.setIfInBounds_toArray, List.set_cons_zero, List.set_cons_succ, i64_w, i32_w]
    rfl
  refine pure_ (i := 4) (N := some 21) (v := ?_) (a' := ?_) #[true, true, true, false, true, false, false, false, false, false] rfl rfl (by kernel_rfl) (fun _ _ _ h => h) (Or.inl ⟨by rfl, ?_⟩) ?_ ?_
  rotate_left
  · intro w'
    go_simp
    with_reducible rfl
  rotate_left
  · simp only [Act.put, List.setIfInBounds_toArray, List.set_cons_zero, List.set_cons_succ, i64_w, i32_w]
    rfl
  refine pure_ (i := 5) (N := some 22) (v := ?_) (a' := ?_) #[true, true, true, false, true, true, false, false, false, false] rfl rfl (by kernel_rfl) (fun _ _ _ h => h) (Or.inl ⟨by rfl, ?_⟩) ?_ ?_
  rotate_left
  · intro w'
    go_simp
    with_reducible rfl
  rotate_left
  · simp only [Act.put, List.setIfInBounds_toArray, List.set_cons_zero, List.set_cons_succ, i64_w, i32_w]
    rfl
  refine pure_ (i := 6) (N := some 23) (v := ?_) (a' := ?_) #[true, true, true, false, true, true, true, false, false, false] rfl rfl (by kernel_rfl) (fun _ _ _ h => h) (Or.inl ⟨by rfl, ?_⟩) ?_ ?_
  rotate_left
  · intro w'
    go_simp
    with_reducible rfl
  rotate_left
  · simp only [Act.put, List.setIfInBounds_toArray, List.set_cons_zero, List.set_cons_succ, i64_w, i32_w]
    rfl
  refine take_ (i := 3) (N := some 20) (v := ?_) (a' := ?_) #[true, true, true, true, true, true, true, false, false, false] rfl rfl (by kernel_rfl) (fun _ _ _ h => h) (Or.inl ⟨by rfl, ?_⟩) hHeld ?_ ?_
  rotate_left
  · rintro w' ⟨s0, s1⟩
    go_simp
    with_reducible rfl
  rotate_left
  · simp only [Act.put, List.setIfInBounds_toArray, List.set_cons_zero, List.set_cons_succ, i64_w, i32_w]
    rfl
  refine take_ (i := 7) (N := some 24) (v := ?_) (a' := ?_) #[true, true, true, true, true, true, true, true, false, false] rfl rfl (by kernel_rfl) (fun _ _ _ h => h) (Or.inl ⟨by rfl, ?_⟩) hHeld ?_ ?_
  rotate_left
  · rintro w' ⟨s0, s1⟩
    go_simp
    with_reducible rfl
  rotate_left
  · simp only [Act.put, List.setIfInBounds_toArray, List.set_cons_zero, List.set_cons_succ, i64_w, i32_w]
    rfl
  refine last_ (i := 8) (N := some 25) #[true, true, true, true, true, true, true, true, true, false] rfl rfl (by kernel_rfl) (by decide) (fun K hK => ?_)
  refine goes_ Try.func101 (by kernel_rfl) rfl #[.map (some gm), .map (some gn)] (by rfl) rfl rfl (by simp only [List.map_toArray, List.map_cons, List.map_nil]; rfl) ?_
  with_reducible refine (mapsEqual_T gm gn A.m B.m _ HA.out.drew.map HB.out.drew.map (by rw [HM.out]) (by rw [HM.out]; exact get_once HB.out.once)).mono ?_
  rintro e w5 ⟨rfl, hb⟩
  refine ⟨_, rfl, ?_⟩
  have R := Aside0.mk (below_step (below_drew (Below.refl w.heap.size w)) hb)
  clear hb
  refine hK.out _ _ ?_
  clear hK K
  refine norm_ (a' := ?_) ?_ ?_
  rotate_left
  · show Act.put _ (some 25) _ = _
    simp only [Act.put, List.setIfInBounds_toArray, List.set_cons_zero, List.set_cons_succ, i64_w, i32_w]
    rfl
  refine pure_ (i := 9) (N := some 4) (v := ?_) (a' := ?_) #[true, true, true, true, true, true, true, true, true, true] rfl rfl (by kernel_rfl) (fun _ _ _ h => h) (Or.inl ⟨by rfl, ?_⟩) ?_ ?_
  rotate_left
  · intro w'
    go_simp
    with_reducible rfl
  rotate_left
  · simp only [Act.put, List.setIfInBounds_toArray, List.set_cons_zero, List.set_cons_succ, i64_w, i32_w]
    rfl
  refine done_ (by kernel_rfl) ?_
  go_wp2_with fail
  go_ret
  exact ⟨rfl, R.out⟩
set_option maxHeartbeats 4000000 in
set_option maxRecDepth 100000 in
theorem gcount_T (gg gp gc gm gl gs g3 : Nat) (G : GSt) (w0 w : World) (hI : GhostIs w0 w gg gp gc gm gl gs g3 G) : Calls Try.prog 50 #[.pointer (some ⟨gg, 0, none⟩)] w fun e w' => e = .returned (.agg #[.int .i64 G.p.c1, .int .i64 G.p.c2, .int .i64 G.p.c3, .int .i64 G.p.c4, .int .i64 G.p.c5]) ∧ Below w.heap.size w w' := by
  have hu38 := Try.underlying38
  have JI := Aside0.mk (hI.alloc (.cells #[.int .i64 0, .int .i64 0, .int .i64 0, .int .i64 0, .int .i64 0] 38))
  have X0 := Aside0.mk (blk_new w (.cells #[.int .i64 0, .int .i64 0, .int .i64 0, .int .i64 0, .int .i64 0] 38))
  clear hI
  go_enter Try.func50, Try.ntmps50
  go_wp2_with fail
  refine (gunder_T gg gp gc gm gl gs g3 G w0 _ JI.out).mono ?_
  rintro e w1 ⟨rfl, rfl⟩
  go_wp2_with fail
  refine (pcount_T gp gc gm G.p w0 _ JI.out.plain).mono ?_
  rintro e w2 ⟨rfl, hb⟩
  have Y0 := Aside0.mk (blk_below X0.out hb)
  have B := Aside0.mk (below_step (below_alloc (Below.refl w.heap.size w) (.cells #[.int .i64 0, .int .i64 0, .int .i64 0, .int .i64 0, .int .i64 0] 38)) hb)
  clear hb
  have z0 : w2.cell? ⟨w.heap.size, 0, none⟩ = some (.int .i64 0) := (blk_cell Y0.out 0).trans rfl
  have z1 : w2.cell? ⟨w.heap.size, 1, none⟩ = some (.int .i64 0) := (blk_cell Y0.out 1).trans rfl
  have z2 : w2.cell? ⟨w.heap.size, 2, none⟩ = some (.int .i64 0) := (blk_cell Y0.out 2).trans rfl
  have z3 : w2.cell? ⟨w.heap.size, 3, none⟩ = some (.int .i64 0) := (blk_cell Y0.out 3).trans rfl
  have z4 : w2.cell? ⟨w.heap.size, 4, none⟩ = some (.int .i64 0) := (blk_cell Y0.out 4).trans rfl
  have y0 : w2.frozen? ⟨w.heap.size, 0, none⟩ = false := blk_frozen Y0.out 0
  have y1 : w2.frozen? ⟨w.heap.size, 1, none⟩ = false := blk_frozen Y0.out 1
  have y2 : w2.frozen? ⟨w.heap.size, 2, none⟩ = false := blk_frozen Y0.out 2
  have y3 : w2.frozen? ⟨w.heap.size, 3, none⟩ = false := blk_frozen Y0.out 3
  have y4 : w2.frozen? ⟨w.heap.size, 4, none⟩ = false := blk_frozen Y0.out 4
  go_wp2_with fail
  refine bodyPost_ret (results_cell_row rfl _ _ w.heap.size 38 #[.int .i64 G.p.c1, .int .i64 G.p.c2, .int .i64 G.p.c3, .int .i64 G.p.c4, .int .i64 G.p.c5] (0, 0) _ rfl (blk_put (blk_put (blk_put (blk_put (blk_put Y0.out 0 (.int .i64 G.p.c1) rfl) 1 (.int .i64 G.p.c2) rfl) 2 (.int .i64 G.p.c3) rfl) 3 (.int .i64 G.p.c4) rfl) 4 (.int .i64 G.p.c5) rfl) Try.underlying38 rfl (by kernel_rfl)) rfl ?_
  exact ⟨rfl, ((((B.out.setCell (p := ⟨w.heap.size, 0, none⟩) (Nat.le_refl _) _).setCell (p := ⟨w.heap.size, 1, none⟩) (Nat.le_refl _) _).setCell (p := ⟨w.heap.size, 2, none⟩) (Nat.le_refl _) _).setCell (p := ⟨w.heap.size, 3, none⟩) (Nat.le_refl _) _).setCell (p := ⟨w.heap.size, 4, none⟩) (Nat.le_refl _) _⟩
end Go.Proofs.Ytlpnggapndokeaa.PIdealKeeps

namespace Go.Proofs.Ytlpnggapndokeaa.PIdealKeeps
open Go Go.RowKit Go.Proofs.YtlpnggapndokeaaW.PrintWords Go.Proofs.YtlpnggapndokeaaW.PrintLast Go.Proofs.YtlpnggapndokeaaW.PrintMore Go.Proofs.Ytlpnggapndokeaa.M
set_option linter.unusedVariables false
set_option linter.unusedSimpArgs false
/-- What a watched memory's accesses leave of a plain world, and that one's of it. -/
theorem bothG1 {w0 w w1 : World} {gg gp gc gm gl gs g3 gq gd gn : Nat} {G : GSt} {C : CSt} (hG : GhostIs w0 w gg gp gc gm gl gs g3 G) (hP : PlainIs w0 w gq gd gn C) (hn : gd ≠ gc ∧ gn ≠ gm ∧ gn ≠ gl ∧ gn ≠ g3) (hf : Fr (GhostS gg gc gm gl gs g3) w w1) : PlainIs w0 w1 gq gd gn C := by
  obtain ⟨v, hv⟩ := hG.soul
  refine hP.fr hf ?_ ?_ ?_
  · rintro cs (e | e | (e | e) | e | e | ⟨cells, e⟩)
    · subst e; exact blk_ne hP.blk hG.blk (by decide) rfl
    · exact mapIs_ne hG.leads hP.blk e
    · subst e; exact blk_ne hP.blk hG.plain.cells.blk (by decide) rfl
    · exact mapIs_ne hG.plain.cells.map hP.blk e
    · subst e; exact blk_ne hP.blk hv.blk (by decide) rfl
    · exact mapIs_ne hv.map hP.blk e
    · injection e with _ e
      exact absurd e (by decide)
  · rintro cs (e | e | (e | e) | e | e | ⟨cells, e⟩)
    · subst e; exact blk_ne hP.cells.blk hG.blk (by decide) rfl
    · exact mapIs_ne hG.leads hP.cells.blk e
    · exact hn.1 e
    · exact mapIs_ne hG.plain.cells.map hP.cells.blk e
    · subst e; exact blk_ne hP.cells.blk hv.blk (by decide) rfl
    · exact mapIs_ne hv.map hP.cells.blk e
    · injection e with _ e
      exact absurd e (by decide)
  · rintro es c (e | e | (e | e) | e | e | ⟨cells, e⟩)
    · exact mapIs_ne hP.cells.map hG.blk e.symm
    · exact hn.2.2.1 e
    · exact mapIs_ne hP.cells.map hG.plain.cells.blk e.symm
    · exact hn.2.1 e
    · exact mapIs_ne hP.cells.map hv.blk e.symm
    · exact hn.2.2.2 e
    · cases e
theorem bothG2 {w0 w w1 : World} {gg gp gc gm gl gs g3 gq gd gn : Nat} {G : GSt} {C : CSt} (hG : GhostIs w0 w gg gp gc gm gl gs g3 G) (hP : PlainIs w0 w gq gd gn C) (hn : gd ≠ gc ∧ gn ≠ gm ∧ gn ≠ gl ∧ gn ≠ g3) (hf : Fr (CellsS gd gn) w w1) : GhostIs w0 w1 gg gp gc gm gl gs g3 G := by
  obtain ⟨v, hv⟩ := hG.soul
  have hg := cells_typed hP.cells hf
  refine ⟨hP.cells.stays hf hG.blk (by decide), hG.plain.fr hg ?_ ?_ ?_, mapIs_frm hG.leads hg ?_, ⟨v, hv.fr hg ?_⟩, hG.b, hG.bl, hG.n1, hG.n2, hG.n3⟩
  · rintro cs (⟨e, cs', h⟩ | ⟨e, es, c, h⟩)
    · injection h with _ h
      exact absurd h (by decide)
    · cases h
  · rintro cs (⟨e, cs', h⟩ | ⟨e, es, c, h⟩)
    · exact hn.1 e.symm
    · cases h
  · rintro es c (⟨e, cs', h⟩ | ⟨e, es', c', h⟩)
    · cases h
    · exact hn.2.1 e.symm
  · rintro es c (⟨e, cs', h⟩ | ⟨e, es', c', h⟩)
    · cases h
    · exact hn.2.2.1 e.symm
  · rintro j o (⟨rfl, cs, rfl⟩ | ⟨rfl, es, c, rfl⟩)
    · refine ⟨fun e => ?_, fun e => mapIs_ne hv.map hP.cells.blk e, ?_⟩
      · subst e
        exact blk_ne hP.cells.blk hv.blk (by decide) rfl
      · rintro ⟨cells, e⟩
        injection e with _ e
        exact absurd e (by decide)
    · refine ⟨fun e => mapIs_ne hP.cells.map hv.blk e.symm, hn.2.2.2, ?_⟩
      rintro ⟨cells, e⟩
      cases e
theorem leadG_p (G : GSt) (k : K3) (id y : Int) (b : Bool) : (leadG G k id y b).p = G.p := rfl
theorem gswapG_p (G : GSt) (k : K3) (id ox x y : Int) (b : Bool) : (gswapG G k id ox x y b).p = cswapC G.p k ox x := by
  unfold gswapG
  split <;> rfl
end Go.Proofs.Ytlpnggapndokeaa.PIdealKeeps

