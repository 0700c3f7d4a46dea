/-
Cells: words by places: what their functions compute.
-/
import Derived.Test.YtlpnggapndokeaaSoul
namespace Go.Proofs.Ytlpnggapndokeaa.M
open Go Go.RowKit
set_option linter.unusedVariables false
set_option linter.unusedSectionVars false
set_option linter.unusedSimpArgs false
section
variable {K V : Type} [DecidableEq K] {P : Program} {kt t e : TypeId} {ek : K → Value} {ev : V → Value} {w : World} {g : Nat} {m : List (K × V)}
theorem dele (H : KeyOf P kt ek) (ht : P.underlying t = some (.map kt e)) (hM : MapIs ek ev w g m) (k : K) (ty : TypeId) :
    ∃ w', (Builtin.delete_ #[t, kt] ty #[.map (some g), ek k]).run P w = .ok (.tuple #[]) w' ∧ MapIs ek ev w' g (del m k) ∧ ∃ o, w' = setB w g o := by
  have hlt0 := hM.lt
  obtain ⟨es, c, hb, he, hst⟩ := hM
  have hf := H.find w k (m.map (·.1)) es.toList (ents_keys he)
  cases hi : idx k (m.map (·.1)) with
  | none =>
    rw [hi] at hf
    simp only [Option.bind_none] at hf
    refine ⟨setB w g (.map es c), ?_, ⟨_, _, setB_at _ _ _ hlt0, ?_, hst⟩, _, rfl⟩
    · simp [Builtin.delete_, run_underlying ht, MapKept.run_getObj_map hb, H.check _ w, hf, MapKept.run_setObj_map _ hb, Result.andThen, setB]
    · rw [del_none hi]
      exact he
  | some i =>
    have hlt := idx_lt hi
    rw [List.length_map] at hlt
    have hlt2 : i < es.toList.length := by
      have := congrArg List.length he.1
      simp only [List.length_map] at this
      omega
    rw [hi] at hf
    simp only [Option.bind_some, List.getElem?_eq_getElem hlt2, Option.map_some] at hf
    refine ⟨setB w g (.map (es.eraseIdxIfInBounds i) c), ?_, ⟨_, _, setB_at _ _ _ hlt0, ?_, MapKept.stamped_erase hst i⟩, _, rfl⟩
    · simp [Builtin.delete_, run_underlying ht, MapKept.run_getObj_map hb, H.check _ w, hf, MapKept.run_setObj_map _ hb, Result.andThen, setB]
    · rw [del_some hi]
      have hl : (es.eraseIdxIfInBounds i).toList = es.toList.eraseIdx i := by simp
      have hme : ∀ {α β : Type} (f : α → β) (l : List α) (j : Nat), (l.eraseIdx j).map f = (l.map f).eraseIdx j := by
        intro α β f l
        induction l with
        | nil => intro j; rfl
        | cons a r ih => intro j; cases j with | zero => rfl | succ j => simp [ih]
      exact ⟨by rw [hl, hme, hme, he.1], by rw [hl, hme, hme, he.2]⟩
/-- No key twice. -/
def Once (m : List (K × V)) : Prop := (m.map (·.1)).Nodup
theorem once_nil : Once ([] : List (K × V)) := List.nodup_nil
theorem put_mem {m : List (K × V)} {k : K} {v : V} : ∀ a, a ∈ (put m k v).map (·.1) → a = k ∨ a ∈ m.map (·.1) := by
  induction m with
  | nil => intro a h; left; simpa [put] using h
  | cons p r ih =>
    intro a h
    by_cases hk : k = p.1
    · simp only [put, if_pos hk, List.map_cons, List.mem_cons] at h
      rcases h with h | h
      · exact .inl h
      · exact .inr (by simp only [List.map_cons, List.mem_cons]; exact .inr h)
    · simp only [put, if_neg hk, List.map_cons, List.mem_cons] at h
      rcases h with h | h
      · exact .inr (by simp only [List.map_cons, List.mem_cons]; exact .inl h)
      · rcases ih a h with h | h
        · exact .inl h
        · exact .inr (by simp only [List.map_cons, List.mem_cons]; exact .inr h)
theorem Once.put {m : List (K × V)} (h : Once m) (k : K) (v : V) : Once (M.put m k v) := by
  induction m with
  | nil => simp [Once, M.put]
  | cons p r ih =>
    have h2 : p.1 ∉ r.map (·.1) ∧ Once r := by simpa [Once] using h
    by_cases hk : k = p.1
    · simp only [M.put, if_pos hk]
      show ((k, v) :: r).map (·.1) |>.Nodup
      rw [List.map_cons, List.nodup_cons]
      exact ⟨by rw [show (k, v).1 = p.1 from hk]; exact h2.1, h2.2⟩
    · simp only [M.put, if_neg hk]
      show (p :: M.put r k v).map (·.1) |>.Nodup
      rw [List.map_cons, List.nodup_cons]
      refine ⟨fun hm => ?_, ih h2.2⟩
      rcases put_mem _ hm with e | e
      · exact hk e.symm
      · exact h2.1 e
theorem del_mem {m : List (K × V)} {k : K} : ∀ a, a ∈ (del m k).map (·.1) → a ∈ m.map (·.1) := by
  induction m with
  | nil => intro a h; exact h
  | cons p r ih =>
    intro a h
    by_cases hk : k = p.1
    · simp only [del, if_pos hk] at h
      simp only [List.map_cons, List.mem_cons]
      exact .inr h
    · simp only [del, if_neg hk, List.map_cons, List.mem_cons] at h
      simp only [List.map_cons, List.mem_cons]
      rcases h with h | h
      · exact .inl h
      · exact .inr (ih a h)
theorem Once.del {m : List (K × V)} (h : Once m) (k : K) : Once (M.del m k) := by
  induction m with
  | nil => exact h
  | cons p r ih =>
    have h2 : p.1 ∉ r.map (·.1) ∧ Once r := by simpa [Once] using h
    by_cases hk : k = p.1
    · simp only [M.del, if_pos hk]; exact h2.2
    · simp only [M.del, if_neg hk]
      show (p :: M.del r k).map (·.1) |>.Nodup
      rw [List.map_cons, List.nodup_cons]
      exact ⟨fun hm => h2.1 (del_mem _ hm), ih h2.2⟩
theorem get_none {m : List (K × V)} {k : K} (h : k ∉ m.map (·.1)) : get m k = none := by
  induction m with
  | nil => rfl
  | cons p r ih =>
    simp only [List.map_cons, List.mem_cons, not_or] at h
    simp only [get, if_neg h.1]
    exact ih h.2
theorem get_del {m : List (K × V)} (h : Once m) (k k' : K) : get (M.del m k) k' = if k' = k then none else get m k' := by
  induction m with
  | nil => simp [M.del, get]
  | cons p r ih =>
    have h2 : p.1 ∉ r.map (·.1) ∧ Once r := by simpa [Once] using h
    by_cases hk : k = p.1
    · simp only [M.del, if_pos hk]
      by_cases h' : k' = k
      · rw [if_pos h', get_none (by rw [h', hk]; exact h2.1)]
      · rw [if_neg h']
        rw [get, if_neg (fun e : k' = p.1 => h' (e.trans hk.symm))]
    · simp only [M.del, if_neg hk, get]
      by_cases h' : k' = p.1
      · rw [if_pos h', if_neg (fun e : k' = k => hk (e.symm.trans h')), if_pos h']
      · rw [if_neg h', if_neg h', ih h2.2]
end
end Go.Proofs.Ytlpnggapndokeaa.M

namespace Go.Proofs.Ytlpnggapndokeaa.PIdealKeeps
open Go Go.RowKit Go.Proofs.YtlpnggapndokeaaW.PrintWords Go.Proofs.YtlpnggapndokeaaW.PrintLast Go.Proofs.YtlpnggapndokeaaW.PrintMore Go.Proofs.Ytlpnggapndokeaa.M
attribute [local go_sem] max2_int min2_int max_two min_two max_three min_three max_four min_four
set_option linter.unusedVariables false
set_option linter.unusedSimpArgs false
/-- A place: kind, slot, part. -/
abbrev K3 : Type := Int × Int × Int
def eP (k : K3) : Value := .agg #[.int .i64 k.1, .int .i64 k.2.1, .int .i64 k.2.2]
theorem keyP : KeyOf Try.prog 23 eP := by
  refine M.keyOf_struct Try.underlying23 (fun b w k => ?_) (fun w k k' => ?_) (fun k => ⟨_, rfl⟩) (fun k => ?_) (fun k k' e => ?_)
  · cases b <;> kernel_rfl
  · obtain ⟨a, b, c⟩ := k
    obtain ⟨a', b', c'⟩ := k'
    refine (eq23 9998 w a b c a' b' c').trans ?_
    congr 1
    simp only [Prod.mk.injEq]
    by_cases h1 : a = a' <;> by_cases h2 : b = b' <;> by_cases h3 : c = c' <;> simp [h1, h2, h3]
  · simp [eP, Instr.sameBits]
  · obtain ⟨a, b, c⟩ := k
    obtain ⟨a', b', c'⟩ := k'
    simpa [eP] using e
def getw (m : List (K3 × Int)) (k : K3) : Int := (get m k).getD 0
def wput (m : List (K3 × Int)) (k : K3) (x : Int) : List (K3 × Int) := if x = 0 then del m k else put m k x
theorem getw_wput {m : List (K3 × Int)} (h : Once m) (k k' : K3) (x : Int) : getw (wput m k x) k' = if k' = k then x else getw m k' := by
  unfold wput getw
  by_cases hx : x = 0
  · rw [if_pos hx, get_del h]
    by_cases hk : k' = k
    · rw [if_pos hk, if_pos hk, hx]; rfl
    · rw [if_neg hk, if_neg hk]
  · rw [if_neg hx, M.get_put]
    by_cases hk : k' = k
    · rw [if_pos hk, if_pos hk]; rfl
    · rw [if_neg hk, if_neg hk]
theorem once_wput {m : List (K3 × Int)} (h : Once m) (k : K3) (x : Int) : Once (wput m k x) := by
  unfold wput
  split
  · exact h.del k
  · exact h.put k x
structure CSt where
  m : List (K3 × Int)
  c1 : Int
  c2 : Int
  c3 : Int
  c4 : Int
  c5 : Int
structure CellsIs (w0 w : World) (gc gm : Nat) (C : CSt) : Prop where
  blk : w.heap[gc]? = some (.cells #[.map (some gm), .int .i64 C.c1, .int .i64 C.c2, .int .i64 C.c3, .int .i64 C.c4, .int .i64 C.c5] 131 (0, 0))
  map : MapIs eP eU w gm C.m
  once : Once C.m
  b0 : w0.heap.size ≤ gc
  b1 : w0.heap.size ≤ gm
def CellsS (gc gm : Nat) (j : Nat) (_ : Obj) : Prop := j = gc ∨ j = gm
theorem mapP_ne {K V : Type} {ek : K → Value} {ev : V → Value} {w : World} {g gi : Nat} {m : List (K × V)} {cs : Array Value} {t : TypeId} (h : MapIs ek ev w g m) (hb : w.heap[gi]? = some (.cells cs t (0, 0))) : gi ≠ g := by
  obtain ⟨es, c, hm, _⟩ := h
  rintro rfl
  rw [hb] at hm
  cases hm
section
variable {w0 w w1 : World} {gc gm : Nat} {C : CSt} {S : Nat → Obj → Prop}
theorem CellsIs.fr (h : CellsIs w0 w gc gm C) (hf : Fr S w w1) (hs : ∀ j o, S j o → j ≠ gc ∧ j ≠ gm) : CellsIs w0 w1 gc gm C :=
  ⟨hf.blk h.blk (fun x => (hs _ _ x).1 rfl), h.map.fr hf (fun o x => (hs _ _ x).2 rfl), h.once, h.b0, h.b1⟩
/-- Of the blocks that a call may turn none is ours. -/
theorem CellsIs.fr' (h : CellsIs w0 w gc gm C) (hf : Fr S w w1) (hs1 : ∀ cs, ¬ S gc (.cells cs 131 (0, 0))) (hs2 : ∀ es c, ¬ S gm (.map es c)) : CellsIs w0 w1 gc gm C := by
  obtain ⟨es, c, hb, he⟩ := h.map
  exact ⟨hf.blk h.blk (hs1 _), ⟨es, c, hf.2 gm _ hb (hs2 _ _), he⟩, h.once, h.b0, h.b1⟩
theorem CellsIs.drew (h : CellsIs w0 w gc gm C) : CellsIs w0 w.drew gc gm C := h.fr (S := fun _ _ => False) (Fr.refl _ w).drew (fun _ _ x => x.elim)
theorem CellsIs.alloc (h : CellsIs w0 w gc gm C) (o : Obj) : CellsIs w0 (w.alloc o) gc gm C := h.fr (S := fun _ _ => False) ((Fr.refl _ w).alloc o) (fun _ _ x => x.elim)
theorem CellsIs.below (h : CellsIs w0 w gc gm C) (hb : Below w.heap.size w w1) : CellsIs w0 w1 gc gm C := h.fr (S := fun _ _ => False) ((Fr.refl _ w).below hb) (fun _ _ x => x.elim)
theorem CellsIs.rebase {wb : World} (h : CellsIs wb w gc gm C) (hle : w0.heap.size ≤ wb.heap.size) : CellsIs w0 w gc gm C := ⟨h.blk, h.map, h.once, Nat.le_trans hle h.b0, Nat.le_trans hle h.b1⟩
theorem CellsIs.count (h : CellsIs w0 w gc gm C) (i : Nat) (u : Value) (C' : CSt) (h1 : C'.m = C.m)
    (he : (#[.map (some gm), .int .i64 C.c1, .int .i64 C.c2, .int .i64 C.c3, .int .i64 C.c4, .int .i64 C.c5] : Array Value).setIfInBounds i u = #[.map (some gm), .int .i64 C'.c1, .int .i64 C'.c2, .int .i64 C'.c3, .int .i64 C'.c4, .int .i64 C'.c5]) :
    CellsIs w0 (w.setCell ⟨gc, i, none⟩ u) gc gm C' := by
  have hf := Fr.set1 h.blk i u
  refine ⟨blk_put h.blk i u he, ?_, h1 ▸ h.once, h.b0, h.b1⟩
  rw [h1]
  exact h.map.fr hf (fun o x => (mapP_ne h.map h.blk).symm x.1)
theorem CellsIs.word (h : CellsIs w0 w gc gm C) {o : Obj} {m : List (K3 × Int)} (hm : MapIs eP eU (setB w gm o) gm m) (ho : Once m) : CellsIs w0 (setB w gm o) gc gm { C with m := m } := by
  obtain ⟨es, c, hb, _⟩ := h.map
  exact ⟨(Fr.setB1 hb o).blk h.blk (fun x => mapP_ne h.map h.blk x.1), hm, ho, h.b0, h.b1⟩
/-- Whatever is no map, nor our block, stays. -/
theorem CellsIs.stays (h : CellsIs w0 w gc gm C) (hf : Fr (CellsS gc gm) w w1) {p : Nat} {cs : Array Value} {t : TypeId} (hb : w.heap[p]? = some (.cells cs t (0, 0))) (h1 : t ≠ 131) : w1.heap[p]? = some (.cells cs t (0, 0)) := by
  refine hf.blk hb (fun hS => ?_)
  rcases hS with e | e
  · subst e
    exact blk_ne hb h.blk h1 rfl
  · exact mapP_ne h.map hb e
end
/-- What an access leaves, and answers. -/
def CPost (w0 w : World) (gc gm : Nat) (C : CSt) (r : Value) (e : Ending) (w' : World) : Prop := e = .returned r ∧ CellsIs w0 w' gc gm C ∧ Below w0.heap.size w0 w' ∧ Fr (CellsS gc gm) w w'
end Go.Proofs.Ytlpnggapndokeaa.PIdealKeeps

namespace Go.Proofs.Ytlpnggapndokeaa.PIdealKeeps
open Go Go.RowKit Go.Proofs.YtlpnggapndokeaaW.PrintWords Go.Proofs.YtlpnggapndokeaaW.PrintLast Go.Proofs.YtlpnggapndokeaaW.PrintMore Go.Proofs.Ytlpnggapndokeaa.M
attribute [local go_sem] max2_int min2_int max_two min_two max_three min_three max_four min_four
set_option linter.unusedVariables false
set_option linter.unusedSimpArgs false
set_option maxHeartbeats 4000000 in
set_option maxRecDepth 100000 in
theorem cput_T (gc gm : Nat) (C : CSt) (pk ps pp x : Int) (w0 w : World) (hI : CellsIs w0 w gc gm C) (hB : Below w0.heap.size w0 w) :
    Calls Try.prog 109 #[.pointer (some ⟨gc, 0, none⟩), .agg #[.int .i64 pk, .int .i64 ps, .int .i64 pp], .int .u64 x] w (CPost w0 w gc gm { C with m := wput C.m (pk, ps, pp) x } (.tuple #[])) := by
  have hu131 := Try.underlying131
  have hu23 := Try.underlying23
  have JI := Aside0.mk (hI.alloc (.cells #[.int .i64 pk, .int .i64 ps, .int .i64 pp] 23)).drew
  have JB := Aside0.mk (below_drew (below_alloc hB (.cells #[.int .i64 pk, .int .i64 ps, .int .i64 pp] 23)))
  have JF := Aside0.mk ((Fr.refl (CellsS gc gm) w).alloc (.cells #[.int .i64 pk, .int .i64 ps, .int .i64 pp] 23)).drew
  have KB := Aside0.mk (blk_drew (blk_new w (.cells #[.int .i64 pk, .int .i64 ps, .int .i64 pp] 23)))
  clear hI hB
  by_cases hx : x = 0
  · have t1 : (x == 0) = true := beq_iff_eq.mpr hx
    have E := Aside0.mk (show wput C.m (pk, ps, pp) x = del C.m (pk, ps, pp) from if_pos hx)
    clear hx
    go_enter Try.func109, Try.ntmps109
    go_wp2_with fail
    obtain ⟨w2, hu, hm2, o2, e2⟩ := M.dele (P := Try.prog) keyP Try.underlying129 JI.out.map (pk, ps, pp) 0
    have HM2 := Aside0.mk hm2
    have HE2 := Aside0.mk e2
    clear hm2 e2
    replace hu : (Builtin.delete_ #[129, 23] 0 #[.map (some gm), .agg #[.int .i64 pk, .int .i64 ps, .int .i64 pp]]).run Try.prog _ = .ok (.tuple #[]) w2 := hu
    refine start_ (n := 6) (S := fun w' => w'.cell? ⟨gc, 0, none⟩ = some (.map (some gm)) ∧ w'.cell? ⟨w.heap.size, 0, none⟩ = some (.int .i64 pk) ∧ w'.cell? ⟨w.heap.size, 1, none⟩ = some (.int .i64 ps) ∧ w'.cell? ⟨w.heap.size, 2, none⟩ = some (.int .i64 pp)) (ds := [5]) #[false, false, false, false, false, false] (by kernel_rfl) rfl rfl ⟨(blk_cell JI.out.blk 0).trans rfl, (blk_cell KB.out 0).trans rfl, (blk_cell KB.out 1).trans rfl, (blk_cell KB.out 2).trans rfl⟩ (fun hHeld => ?_)
    refine pure_ (i := 0) (N := some 8) (v := ?_) (a' := ?_) #[true, false, false, false, false, false] rfl rfl (by kernel_rfl) (fun _ _ _ h => h) (Or.inl ⟨by rfl, ?_⟩) ?_ ?_
    rotate_left
    · intro w'
      go_simp
      with_reducible rfl
    rotate_left
    · simp only [Act.put, List.setIfInBounds_toArray, List.set_cons_zero, List.set_cons_succ, i64_w, i32_w]
      rfl
    refine pure_ (i := 1) (N := some 9) (v := ?_) (a' := ?_) #[true, true, false, false, false, false] rfl rfl (by kernel_rfl) (fun _ _ _ h => h) (Or.inl ⟨by rfl, ?_⟩) ?_ ?_
    rotate_left
    · intro w'
      go_simp
      with_reducible rfl
    rotate_left
    · simp only [Act.put, List.setIfInBounds_toArray, List.set_cons_zero, List.set_cons_succ, i64_w, i32_w]
      rfl
    refine pure_ (i := 2) (N := some 10) (v := ?_) (a' := ?_) #[true, true, true, false, false, false] rfl rfl (by kernel_rfl) (fun _ _ _ h => h) (Or.inl ⟨by rfl, ?_⟩) ?_ ?_
    rotate_left
    · intro w'
      go_simp
      with_reducible rfl
    rotate_left
    · simp only [Act.put, List.setIfInBounds_toArray, List.set_cons_zero, List.set_cons_succ, i64_w, i32_w]
      rfl
    refine take_ (i := 3) (N := some 11) (v := ?_) (a' := ?_) #[true, true, true, true, false, false] rfl rfl (by kernel_rfl) (fun _ _ _ h => h) (Or.inl ⟨by rfl, ?_⟩) hHeld ?_ ?_
    rotate_left
    · rintro w' ⟨s0, s1, s2, s3⟩
      go_simp
      with_reducible rfl
    rotate_left
    · simp only [Act.put, List.setIfInBounds_toArray, List.set_cons_zero, List.set_cons_succ, i64_w, i32_w]
      rfl
    refine take_ (i := 4) (N := some 12) (v := ?_) (a' := ?_) #[true, true, true, true, true, false] rfl rfl (by kernel_rfl) (fun _ _ _ h => h) (Or.inl ⟨by rfl, ?_⟩) hHeld ?_ ?_
    rotate_left
    · rintro w' ⟨s0, s1, s2, s3⟩
      go_simp
      with_reducible rfl
    rotate_left
    · simp only [Act.put, List.setIfInBounds_toArray, List.set_cons_zero, List.set_cons_succ, i64_w, i32_w]
      rfl
    refine last_ (i := 5) (N := none) #[true, true, true, true, true, true] rfl rfl (by kernel_rfl) (by decide) (fun K hK => ?_)
    refine value_ (w1 := ?_) (v := ?_) (by rfl) rfl ?_ ?_
    rotate_left 2
    · go_simp
      constructor
      · rfl
      · rfl
    refine hK.out _ _ ?_
    clear hK K
    refine done_ (by kernel_rfl) ?_
    go_wp2_with fail
    have e2 := HE2.out
    subst e2
    refine bodyPost_ret (results_none rfl _ _ _) rfl ?_
    rw [E.out]
    exact ⟨rfl, JI.out.word HM2.out (JI.out.once.del _), setB_below JB.out JI.out.b1 o2, JF.out.setBk (fun _ => .inr rfl) o2⟩
  · have t1 : (x == 0) = false := beq_eq_false_iff_ne.mpr hx
    have E := Aside0.mk (show wput C.m (pk, ps, pp) x = put C.m (pk, ps, pp) x from if_neg hx)
    clear hx
    go_enter Try.func109, Try.ntmps109
    go_wp2_with fail
    obtain ⟨w2, hu, hm2, o2, e2⟩ := M.upd (P := Try.prog) keyP Try.underlying129 JI.out.map (pk, ps, pp) x
    have HM2 := Aside0.mk hm2
    have HE2 := Aside0.mk e2
    clear hm2 e2
    replace hu : (Instr.mapUpdate 129 (.map (some gm)) (.agg #[.int .i64 pk, .int .i64 ps, .int .i64 pp]) (.int .u64 x)).run Try.prog _ = .ok () w2 := hu
    refine start_ (n := 7) (S := fun w' => w'.cell? ⟨gc, 0, none⟩ = some (.map (some gm)) ∧ w'.cell? ⟨w.heap.size, 0, none⟩ = some (.int .i64 pk) ∧ w'.cell? ⟨w.heap.size, 1, none⟩ = some (.int .i64 ps) ∧ w'.cell? ⟨w.heap.size, 2, none⟩ = some (.int .i64 pp)) (ds := [6]) #[false, false, false, false, false, false, false] (by kernel_rfl) rfl rfl ⟨(blk_cell JI.out.blk 0).trans rfl, (blk_cell KB.out 0).trans rfl, (blk_cell KB.out 1).trans rfl, (blk_cell KB.out 2).trans rfl⟩ (fun hHeld => ?_)
    refine pure_ (i := 0) (N := some 13) (v := ?_) (a' := ?_) #[true, false, false, false, false, false, false] rfl rfl (by kernel_rfl) (fun _ _ _ h => h) (Or.inl ⟨by rfl, ?_⟩) ?_ ?_
    rotate_left
    · intro w'
      go_simp
      with_reducible rfl
    rotate_left
    · simp only [Act.put, List.setIfInBounds_toArray, List.set_cons_zero, List.set_cons_succ, i64_w, i32_w]
      rfl
    refine pure_ (i := 1) (N := some 14) (v := ?_) (a' := ?_) #[true, true, false, false, false, false, false] rfl rfl (by kernel_rfl) (fun _ _ _ h => h) (Or.inl ⟨by rfl, ?_⟩) ?_ ?_
    rotate_left
    · intro w'
      go_simp
      with_reducible rfl
    rotate_left
    · simp only [Act.put, List.setIfInBounds_toArray, List.set_cons_zero, List.set_cons_succ, i64_w, i32_w]
      rfl
    refine pure_ (i := 2) (N := some 15) (v := ?_) (a' := ?_) #[true, true, true, false, false, false, false] rfl rfl (by kernel_rfl) (fun _ _ _ h => h) (Or.inl ⟨by rfl, ?_⟩) ?_ ?_
    rotate_left
    · intro w'
      go_simp
      with_reducible rfl
    rotate_left
    · simp only [Act.put, List.setIfInBounds_toArray, List.set_cons_zero, List.set_cons_succ, i64_w, i32_w]
      rfl
    refine pure_ (i := 5) (N := some 18) (v := ?_) (a' := ?_) #[true, true, true, false, false, true, false] rfl rfl (by kernel_rfl) (fun _ _ _ h => h) (Or.inl ⟨by rfl, ?_⟩) ?_ ?_
    rotate_left
    · intro w'
      go_simp
      with_reducible rfl
    rotate_left
    · simp only [Act.put, List.setIfInBounds_toArray, List.set_cons_zero, List.set_cons_succ, i64_w, i32_w]
      rfl
    refine take_ (i := 3) (N := some 16) (v := ?_) (a' := ?_) #[true, true, true, true, false, true, false] rfl rfl (by kernel_rfl) (fun _ _ _ h => h) (Or.inl ⟨by rfl, ?_⟩) hHeld ?_ ?_
    rotate_left
    · rintro w' ⟨s0, s1, s2, s3⟩
      go_simp
      with_reducible rfl
    rotate_left
    · simp only [Act.put, List.setIfInBounds_toArray, List.set_cons_zero, List.set_cons_succ, i64_w, i32_w]
      rfl
    refine take_ (i := 4) (N := some 17) (v := ?_) (a' := ?_) #[true, true, true, true, true, true, false] rfl rfl (by kernel_rfl) (fun _ _ _ h => h) (Or.inl ⟨by rfl, ?_⟩) hHeld ?_ ?_
    rotate_left
    · rintro w' ⟨s0, s1, s2, s3⟩
      go_simp
      with_reducible rfl
    rotate_left
    · simp only [Act.put, List.setIfInBounds_toArray, List.set_cons_zero, List.set_cons_succ, i64_w, i32_w]
      rfl
    refine last_ (i := 6) (N := none) #[true, true, true, true, true, true, true] rfl rfl (by kernel_rfl) (by decide) (fun K hK => ?_)
    refine skip_ (w1 := ?_) (by rfl) rfl ?_ ?_
    rotate_left
    · go_simp
      rfl
    refine hK.out _ _ ?_
    clear hK K
    refine done_ (by kernel_rfl) ?_
    go_wp2_with fail
    have e2 := HE2.out
    subst e2
    refine bodyPost_end (results_none rfl _ _ _) rfl ?_
    rw [E.out]
    exact ⟨rfl, JI.out.word HM2.out (JI.out.once.put _ _), setB_below JB.out JI.out.b1 o2, JF.out.setBk (fun _ => .inr rfl) o2⟩
def cloadC (C : CSt) : CSt := { C with c1 := wrap64 (C.c1 + 1) }
set_option maxHeartbeats 4000000 in
set_option maxRecDepth 100000 in
theorem cload_T (gc gm : Nat) (C : CSt) (pk ps pp : Int) (w0 w : World) (hI : CellsIs w0 w gc gm C) (hB : Below w0.heap.size w0 w) :
    Calls Try.prog 88 #[.pointer (some ⟨gc, 0, none⟩), .agg #[.int .i64 pk, .int .i64 ps, .int .i64 pp]] w (CPost w0 w gc gm (cloadC C) (.int .u64 (getw C.m (pk, ps, pp)))) := by
  have hu131 := Try.underlying131
  have hu23 := Try.underlying23
  have hu38 := Try.underlying38
  have JI0 := Aside0.mk (hI.alloc (.cells #[.int .i64 pk, .int .i64 ps, .int .i64 pp] 23))
  have c_ : (w.alloc (.cells #[.int .i64 pk, .int .i64 ps, .int .i64 pp] 23)).cell? ⟨gc, 1, none⟩ = some (.int .i64 C.c1) := (blk_cell JI0.out.blk 1).trans rfl
  have f_ := blk_frozen JI0.out.blk 1
  have JI := Aside0.mk (JI0.out.count 1 (.int .i64 (wrap64 (C.c1 + 1))) { C with c1 := wrap64 (C.c1 + 1) } rfl rfl)
  have N0 := Aside0.mk (show w.heap.size ≠ gc by have := blk_lt hI.blk; omega)
  have KB := Aside0.mk (blk_far (p := ⟨gc, 1, none⟩) (blk_new w (.cells #[.int .i64 pk, .int .i64 ps, .int .i64 pp] 23)) N0.out (.int .i64 (wrap64 (C.c1 + 1))))
  have JB := Aside0.mk ((below_alloc hB (.cells #[.int .i64 pk, .int .i64 ps, .int .i64 pp] 23)).setCell (p := ⟨gc, 1, none⟩) hI.b0 (.int .i64 (wrap64 (C.c1 + 1))))
  have JF := Aside0.mk (((Fr.refl (CellsS gc gm) w).alloc (.cells #[.int .i64 pk, .int .i64 ps, .int .i64 pp] 23)).set (p := ⟨gc, 1, none⟩) (fun _ => .inl rfl) (.int .i64 (wrap64 (C.c1 + 1))))
  have a0 : ((w.alloc (.cells #[.int .i64 pk, .int .i64 ps, .int .i64 pp] 23)).setCell ⟨gc, 1, none⟩ (.int .i64 (wrap64 (C.c1 + 1)))).cell? ⟨w.heap.size, 0, none⟩ = some (.int .i64 pk) := (blk_cell KB.out 0).trans rfl
  have a1 : ((w.alloc (.cells #[.int .i64 pk, .int .i64 ps, .int .i64 pp] 23)).setCell ⟨gc, 1, none⟩ (.int .i64 (wrap64 (C.c1 + 1)))).cell? ⟨w.heap.size, 1, none⟩ = some (.int .i64 ps) := (blk_cell KB.out 1).trans rfl
  have a2 : ((w.alloc (.cells #[.int .i64 pk, .int .i64 ps, .int .i64 pp] 23)).setCell ⟨gc, 1, none⟩ (.int .i64 (wrap64 (C.c1 + 1)))).cell? ⟨w.heap.size, 2, none⟩ = some (.int .i64 pp) := (blk_cell KB.out 2).trans rfl
  clear hI hB JI0 N0
  obtain ⟨cur, hcur⟩ : ∃ c, getw C.m (pk, ps, pp) = c := ⟨_, rfl⟩
  have HL := Aside0.mk (show ∀ W, MapIs eP eU W gm C.m → (Instr.lookup 129 (.map (some gm)) (.agg #[.int .i64 pk, .int .i64 ps, .int .i64 pp]) false).run Try.prog W = .ok (.int .u64 cur) W from fun W hM => hcur ▸ M.look (P := Try.prog) keyP Try.underlying129 0 (zU W) hM (pk, ps, pp))
  have HC := Aside0.mk hcur
  clear hcur
  rw [HC.out]
  go_enter Try.func88, Try.ntmps88
  go_wp2_with fail
  generalize ((w.alloc (.cells #[.int .i64 pk, .int .i64 ps, .int .i64 pp] 23)).setCell ⟨gc, 1, none⟩ (.int .i64 (wrap64 (C.c1 + 1)))) = w1 at *
  refine start_ (n := 7) (S := fun w' => w'.cell? ⟨gc, 0, none⟩ = some (.map (some gm)) ∧ w'.cell? ⟨w.heap.size, 0, none⟩ = some (.int .i64 pk) ∧ w'.cell? ⟨w.heap.size, 1, none⟩ = some (.int .i64 ps) ∧ w'.cell? ⟨w.heap.size, 2, none⟩ = some (.int .i64 pp) ∧ (Instr.lookup 129 (.map (some gm)) (.agg #[.int .i64 pk, .int .i64 ps, .int .i64 pp]) false).run Try.prog w' = .ok (.int .u64 cur) w') (ds := []) #[false, false, false, false, false, false, false] (by kernel_rfl) rfl rfl ⟨(blk_cell (blk_drew JI.out.blk) 0).trans rfl, (blk_cell (blk_drew KB.out) 0).trans rfl, (blk_cell (blk_drew KB.out) 1).trans rfl, (blk_cell (blk_drew KB.out) 2).trans rfl, (HL.out _ JI.out.drew.map)⟩ (fun hHeld => ?_)
  refine pure_ (i := 0) (N := some 16) (v := ?_) (a' := ?_) #[true, false, false, false, false, false, false] rfl rfl (by kernel_rfl) (fun _ _ _ h => h) (Or.inl ⟨by rfl, ?_⟩) ?_ ?_
  rotate_left
  · intro w'
    go_simp
    with_reducible rfl
  rotate_left
  · simp only [Act.put, List.setIfInBounds_toArray, List.set_cons_zero, List.set_cons_succ, i64_w, i32_w]
    rfl
  refine pure_ (i := 1) (N := some 17) (v := ?_) (a' := ?_) #[true, true, false, false, false, false, false] rfl rfl (by kernel_rfl) (fun _ _ _ h => h) (Or.inl ⟨by rfl, ?_⟩) ?_ ?_
  rotate_left
  · intro w'
    go_simp
    with_reducible rfl
  rotate_left
  · simp only [Act.put, List.setIfInBounds_toArray, List.set_cons_zero, List.set_cons_succ, i64_w, i32_w]
    rfl
  refine pure_ (i := 2) (N := some 18) (v := ?_) (a' := ?_) #[true, true, true, false, false, false, false] rfl rfl (by kernel_rfl) (fun _ _ _ h => h) (Or.inl ⟨by rfl, ?_⟩) ?_ ?_
  rotate_left
  · intro w'
    go_simp
    with_reducible rfl
  rotate_left
  · simp only [Act.put, List.setIfInBounds_toArray, List.set_cons_zero, List.set_cons_succ, i64_w, i32_w]
    rfl
  refine take_ (i := 3) (N := some 19) (v := ?_) (a' := ?_) #[true, true, true, true, false, false, false] rfl rfl (by kernel_rfl) (fun _ _ _ h => h) (Or.inl ⟨by rfl, ?_⟩) hHeld ?_ ?_
  rotate_left
  · rintro w' ⟨s0, s1, s2, s3, s4⟩
    go_simp
    with_reducible rfl
  rotate_left
  · simp only [Act.put, List.setIfInBounds_toArray, List.set_cons_zero, List.set_cons_succ, i64_w, i32_w]
    rfl
  refine take_ (i := 4) (N := some 20) (v := ?_) (a' := ?_) #[true, true, true, true, true, false, false] rfl rfl (by kernel_rfl) (fun _ _ _ h => h) (Or.inl ⟨by rfl, ?_⟩) hHeld ?_ ?_
  rotate_left
  · rintro w' ⟨s0, s1, s2, s3, s4⟩
    go_simp
    with_reducible rfl
  rotate_left
  · simp only [Act.put, List.setIfInBounds_toArray, List.set_cons_zero, List.set_cons_succ, i64_w, i32_w]
    rfl
  refine take_ (i := 5) (N := some 21) (v := ?_) (a' := ?_) #[true, true, true, true, true, true, false] rfl rfl (by kernel_rfl) (fun _ _ _ h => h) (Or.inl ⟨by rfl, ?_⟩) hHeld ?_ ?_
  rotate_left
  · rintro w' ⟨s0, s1, s2, s3, s4⟩
    go_simp
    with_reducible rfl
  rotate_left
  · simp only [Act.put, List.setIfInBounds_toArray, List.set_cons_zero, List.set_cons_succ, i64_w, i32_w]
    rfl
  refine pure_ (i := 6) (N := some 4) (v := ?_) (a' := ?_) #[true, true, true, true, true, true, true] rfl rfl (by kernel_rfl) (fun _ _ _ h => h) (Or.inl ⟨by rfl, ?_⟩) ?_ ?_
  rotate_left
  · intro w'
    go_simp
    with_reducible rfl
  rotate_left
  · simp only [Act.put, List.setIfInBounds_toArray, List.set_cons_zero, List.set_cons_succ, i64_w, i32_w]
    rfl
  refine done_ (by kernel_rfl) ?_
  go_wp2_with fail
  go_ret
  exact ⟨rfl, JI.out.drew, below_drew JB.out, JF.out.drew⟩
def cstoreC (C : CSt) (k : K3) (x : Int) : CSt := { C with m := wput C.m k x, c2 := wrap64 (C.c2 + 1) }
set_option maxHeartbeats 4000000 in
set_option maxRecDepth 100000 in
theorem cstore_T (gc gm : Nat) (C : CSt) (pk ps pp x : Int) (w0 w : World) (hI : CellsIs w0 w gc gm C) (hB : Below w0.heap.size w0 w) :
    Calls Try.prog 89 #[.pointer (some ⟨gc, 0, none⟩), .agg #[.int .i64 pk, .int .i64 ps, .int .i64 pp], .int .u64 x] w (CPost w0 w gc gm (cstoreC C (pk, ps, pp) x) (.tuple #[])) := by
  have hu131 := Try.underlying131
  have hu23 := Try.underlying23
  have hu38 := Try.underlying38
  have JI0 := Aside0.mk (hI.alloc (.cells #[.int .i64 pk, .int .i64 ps, .int .i64 pp] 23))
  have c_ : (w.alloc (.cells #[.int .i64 pk, .int .i64 ps, .int .i64 pp] 23)).cell? ⟨gc, 2, none⟩ = some (.int .i64 C.c2) := (blk_cell JI0.out.blk 2).trans rfl
  have f_ := blk_frozen JI0.out.blk 2
  have JI := Aside0.mk (JI0.out.count 2 (.int .i64 (wrap64 (C.c2 + 1))) { C with c2 := wrap64 (C.c2 + 1) } rfl rfl)
  have N0 := Aside0.mk (show w.heap.size ≠ gc by have := blk_lt hI.blk; omega)
  have KB := Aside0.mk (blk_far (p := ⟨gc, 2, none⟩) (blk_new w (.cells #[.int .i64 pk, .int .i64 ps, .int .i64 pp] 23)) N0.out (.int .i64 (wrap64 (C.c2 + 1))))
  have JB := Aside0.mk ((below_alloc hB (.cells #[.int .i64 pk, .int .i64 ps, .int .i64 pp] 23)).setCell (p := ⟨gc, 2, none⟩) hI.b0 (.int .i64 (wrap64 (C.c2 + 1))))
  have JF := Aside0.mk (((Fr.refl (CellsS gc gm) w).alloc (.cells #[.int .i64 pk, .int .i64 ps, .int .i64 pp] 23)).set (p := ⟨gc, 2, none⟩) (fun _ => .inl rfl) (.int .i64 (wrap64 (C.c2 + 1))))
  have a0 : ((w.alloc (.cells #[.int .i64 pk, .int .i64 ps, .int .i64 pp] 23)).setCell ⟨gc, 2, none⟩ (.int .i64 (wrap64 (C.c2 + 1)))).cell? ⟨w.heap.size, 0, none⟩ = some (.int .i64 pk) := (blk_cell KB.out 0).trans rfl
  have a1 : ((w.alloc (.cells #[.int .i64 pk, .int .i64 ps, .int .i64 pp] 23)).setCell ⟨gc, 2, none⟩ (.int .i64 (wrap64 (C.c2 + 1)))).cell? ⟨w.heap.size, 1, none⟩ = some (.int .i64 ps) := (blk_cell KB.out 1).trans rfl
  have a2 : ((w.alloc (.cells #[.int .i64 pk, .int .i64 ps, .int .i64 pp] 23)).setCell ⟨gc, 2, none⟩ (.int .i64 (wrap64 (C.c2 + 1)))).cell? ⟨w.heap.size, 2, none⟩ = some (.int .i64 pp) := (blk_cell KB.out 2).trans rfl
  clear hI hB JI0 N0
  go_enter Try.func89, Try.ntmps89
  go_wp2_with fail
  generalize ((w.alloc (.cells #[.int .i64 pk, .int .i64 ps, .int .i64 pp] 23)).setCell ⟨gc, 2, none⟩ (.int .i64 (wrap64 (C.c2 + 1)))) = w1 at *
  refine (cput_T gc gm _ pk ps pp x w0 w1 JI.out JB.out).mono ?_
  rintro e w2 ⟨rfl, h1, h2, h3⟩
  have R1 := Aside0.mk h1
  have R2 := Aside0.mk h2
  have R3 := Aside0.mk (JF.out.trans h3)
  clear h1 h2 h3
  go_wp2_with fail
  refine bodyPost_end (results_none rfl _ _ _) rfl ?_
  exact ⟨rfl, R1.out, R2.out, R3.out⟩
def cswapC (C : CSt) (k : K3) (ox x : Int) : CSt := if getw C.m k = ox then { C with m := wput C.m k x, c3 := wrap64 (C.c3 + 1) } else { C with c3 := wrap64 (C.c3 + 1), c4 := wrap64 (C.c4 + 1) }
def cswapR (C : CSt) (k : K3) (ox : Int) : Bool := decide (getw C.m k = ox)
set_option maxHeartbeats 4000000 in
set_option maxRecDepth 100000 in
theorem cswap_T (gc gm : Nat) (C : CSt) (pk ps pp ox x : Int) (w0 w : World) (hI : CellsIs w0 w gc gm C) (hB : Below w0.heap.size w0 w) :
    Calls Try.prog 90 #[.pointer (some ⟨gc, 0, none⟩), .agg #[.int .i64 pk, .int .i64 ps, .int .i64 pp], .int .u64 ox, .int .u64 x] w (CPost w0 w gc gm (cswapC C (pk, ps, pp) ox x) (.bool (cswapR C (pk, ps, pp) ox))) := by
  have hu131 := Try.underlying131
  have hu23 := Try.underlying23
  have hu38 := Try.underlying38
  have JI0 := Aside0.mk (hI.alloc (.cells #[.int .i64 pk, .int .i64 ps, .int .i64 pp] 23))
  have c_ : (w.alloc (.cells #[.int .i64 pk, .int .i64 ps, .int .i64 pp] 23)).cell? ⟨gc, 3, none⟩ = some (.int .i64 C.c3) := (blk_cell JI0.out.blk 3).trans rfl
  have f_ := blk_frozen JI0.out.blk 3
  have JI := Aside0.mk (JI0.out.count 3 (.int .i64 (wrap64 (C.c3 + 1))) { C with c3 := wrap64 (C.c3 + 1) } rfl rfl)
  have N0 := Aside0.mk (show w.heap.size ≠ gc by have := blk_lt hI.blk; omega)
  have KB := Aside0.mk (blk_far (p := ⟨gc, 3, none⟩) (blk_new w (.cells #[.int .i64 pk, .int .i64 ps, .int .i64 pp] 23)) N0.out (.int .i64 (wrap64 (C.c3 + 1))))
  have JB := Aside0.mk ((below_alloc hB (.cells #[.int .i64 pk, .int .i64 ps, .int .i64 pp] 23)).setCell (p := ⟨gc, 3, none⟩) hI.b0 (.int .i64 (wrap64 (C.c3 + 1))))
  have JF := Aside0.mk (((Fr.refl (CellsS gc gm) w).alloc (.cells #[.int .i64 pk, .int .i64 ps, .int .i64 pp] 23)).set (p := ⟨gc, 3, none⟩) (fun _ => .inl rfl) (.int .i64 (wrap64 (C.c3 + 1))))
  have a0 : ((w.alloc (.cells #[.int .i64 pk, .int .i64 ps, .int .i64 pp] 23)).setCell ⟨gc, 3, none⟩ (.int .i64 (wrap64 (C.c3 + 1)))).cell? ⟨w.heap.size, 0, none⟩ = some (.int .i64 pk) := (blk_cell KB.out 0).trans rfl
  have a1 : ((w.alloc (.cells #[.int .i64 pk, .int .i64 ps, .int .i64 pp] 23)).setCell ⟨gc, 3, none⟩ (.int .i64 (wrap64 (C.c3 + 1)))).cell? ⟨w.heap.size, 1, none⟩ = some (.int .i64 ps) := (blk_cell KB.out 1).trans rfl
  have a2 : ((w.alloc (.cells #[.int .i64 pk, .int .i64 ps, .int .i64 pp] 23)).setCell ⟨gc, 3, none⟩ (.int .i64 (wrap64 (C.c3 + 1)))).cell? ⟨w.heap.size, 2, none⟩ = some (.int .i64 pp) := (blk_cell KB.out 2).trans rfl
  clear hI hB JI0 N0
  obtain ⟨cur, hcur⟩ : ∃ c, getw C.m (pk, ps, pp) = c := ⟨_, rfl⟩
  have HL := Aside0.mk (show ∀ W, MapIs eP eU W gm C.m → (Instr.lookup 129 (.map (some gm)) (.agg #[.int .i64 pk, .int .i64 ps, .int .i64 pp]) false).run Try.prog W = .ok (.int .u64 cur) W from fun W hM => hcur ▸ M.look (P := Try.prog) keyP Try.underlying129 0 (zU W) hM (pk, ps, pp))
  have HC := Aside0.mk hcur
  clear hcur
  by_cases hq : cur = ox
  · have t1 : (cur != ox) = false := by rw [hq]; exact bne_self_eq_false _
    have E1 := Aside0.mk (show cswapC C (pk, ps, pp) ox x = { C with m := wput C.m (pk, ps, pp) x, c3 := wrap64 (C.c3 + 1) } from if_pos (HC.out.trans hq))
    have E2 := Aside0.mk (show cswapR C (pk, ps, pp) ox = true from decide_eq_true (HC.out.trans hq))
    clear hq
    go_enter Try.func90, Try.ntmps90
    go_wp2_with fail
    generalize ((w.alloc (.cells #[.int .i64 pk, .int .i64 ps, .int .i64 pp] 23)).setCell ⟨gc, 3, none⟩ (.int .i64 (wrap64 (C.c3 + 1)))) = w1 at *
    refine start_ (n := 8) (S := fun w' => w'.cell? ⟨gc, 0, none⟩ = some (.map (some gm)) ∧ w'.cell? ⟨w.heap.size, 0, none⟩ = some (.int .i64 pk) ∧ w'.cell? ⟨w.heap.size, 1, none⟩ = some (.int .i64 ps) ∧ w'.cell? ⟨w.heap.size, 2, none⟩ = some (.int .i64 pp) ∧ (Instr.lookup 129 (.map (some gm)) (.agg #[.int .i64 pk, .int .i64 ps, .int .i64 pp]) false).run Try.prog w' = .ok (.int .u64 cur) w') (ds := []) #[false, false, false, false, false, false, false, false] (by kernel_rfl) rfl rfl ⟨(blk_cell (blk_drew JI.out.blk) 0).trans rfl, (blk_cell (blk_drew KB.out) 0).trans rfl, (blk_cell (blk_drew KB.out) 1).trans rfl, (blk_cell (blk_drew KB.out) 2).trans rfl, (HL.out _ JI.out.drew.map)⟩ (fun hHeld => ?_)
    refine pure_ (i := 0) (N := some 20) (v := ?_) (a' := ?_) #[true, false, false, false, false, false, false, false] rfl rfl (by kernel_rfl) (fun _ _ _ h => h) (Or.inl ⟨by rfl, ?_⟩) ?_ ?_
    rotate_left
    · intro w'
      go_simp
      with_reducible rfl
    rotate_left
    · simp only [Act.put, List.setIfInBounds_toArray, List.set_cons_zero, List.set_cons_succ, i64_w, i32_w]
      rfl
    refine pure_ (i := 1) (N := some 21) (v := ?_) (a' := ?_) #[true, true, false, false, false, false, false, false] rfl rfl (by kernel_rfl) (fun _ _ _ h => h) (Or.inl ⟨by rfl, ?_⟩) ?_ ?_
    rotate_left
    · intro w'
      go_simp
      with_reducible rfl
    rotate_left
    · simp only [Act.put, List.setIfInBounds_toArray, List.set_cons_zero, List.set_cons_succ, i64_w, i32_w]
      rfl
    refine pure_ (i := 2) (N := some 22) (v := ?_) (a' := ?_) #[true, true, true, false, false, false, false, false] rfl rfl (by kernel_rfl) (fun _ _ _ h => h) (Or.inl ⟨by rfl, ?_⟩) ?_ ?_
    rotate_left
    · intro w'
      go_simp
      with_reducible rfl
    rotate_left
    · simp only [Act.put, List.setIfInBounds_toArray, List.set_cons_zero, List.set_cons_succ, i64_w, i32_w]
      rfl
    refine pure_ (i := 6) (N := some 26) (v := ?_) (a' := ?_) #[true, true, true, false, false, false, true, false] rfl rfl (by kernel_rfl) (fun _ _ _ h => h) (Or.inl ⟨by rfl, ?_⟩) ?_ ?_
    rotate_left
    · intro w'
      go_simp
      with_reducible rfl
    rotate_left
    · simp only [Act.put, List.setIfInBounds_toArray, List.set_cons_zero, List.set_cons_succ, i64_w, i32_w]
      rfl
    refine take_ (i := 3) (N := some 23) (v := ?_) (a' := ?_) #[true, true, true, true, false, false, true, false] rfl rfl (by kernel_rfl) (fun _ _ _ h => h) (Or.inl ⟨by rfl, ?_⟩) hHeld ?_ ?_
    rotate_left
    · rintro w' ⟨s0, s1, s2, s3, s4⟩
      go_simp
      with_reducible rfl
    rotate_left
    · simp only [Act.put, List.setIfInBounds_toArray, List.set_cons_zero, List.set_cons_succ, i64_w, i32_w]
      rfl
    refine take_ (i := 4) (N := some 24) (v := ?_) (a' := ?_) #[true, true, true, true, true, false, true, false] rfl rfl (by kernel_rfl) (fun _ _ _ h => h) (Or.inl ⟨by rfl, ?_⟩) hHeld ?_ ?_
    rotate_left
    · rintro w' ⟨s0, s1, s2, s3, s4⟩
      go_simp
      with_reducible rfl
    rotate_left
    · simp only [Act.put, List.setIfInBounds_toArray, List.set_cons_zero, List.set_cons_succ, i64_w, i32_w]
      rfl
    refine take_ (i := 5) (N := some 25) (v := ?_) (a' := ?_) #[true, true, true, true, true, true, true, false] rfl rfl (by kernel_rfl) (fun _ _ _ h => h) (Or.inl ⟨by rfl, ?_⟩) hHeld ?_ ?_
    rotate_left
    · rintro w' ⟨s0, s1, s2, s3, s4⟩
      go_simp
      with_reducible rfl
    rotate_left
    · simp only [Act.put, List.setIfInBounds_toArray, List.set_cons_zero, List.set_cons_succ, i64_w, i32_w]
      rfl
    refine pure_ (i := 7) (N := some 27) (v := ?_) (a' := ?_) #[true, true, true, true, true, true, true, true] rfl rfl (by kernel_rfl) (fun _ _ _ h => h) (Or.inl ⟨by rfl, ?_⟩) ?_ ?_
    rotate_left
    · intro w'
      go_simp
      with_reducible rfl
    rotate_left
    · simp only [Act.put, List.setIfInBounds_toArray, List.set_cons_zero, List.set_cons_succ, i64_w, i32_w]
      rfl
    refine done_ (by kernel_rfl) ?_
    have k0 : w1.drew.cell? ⟨w.heap.size, 0, none⟩ = some (.int .i64 pk) := (blk_cell (blk_drew KB.out) 0).trans rfl
    have k1 : w1.drew.cell? ⟨w.heap.size, 1, none⟩ = some (.int .i64 ps) := (blk_cell (blk_drew KB.out) 1).trans rfl
    have k2 : w1.drew.cell? ⟨w.heap.size, 2, none⟩ = some (.int .i64 pp) := (blk_cell (blk_drew KB.out) 2).trans rfl
    go_wp2_with fail
    refine (cput_T gc gm _ pk ps pp x w0 _ JI.out.drew (below_drew JB.out)).mono ?_
    rintro e w2 ⟨rfl, h1, h2, h3⟩
    have R1 := Aside0.mk h1
    have R2 := Aside0.mk h2
    have R3 := Aside0.mk (JF.out.drew.trans h3)
    clear h1 h2 h3
    go_wp2_with fail
    go_ret
    rw [E1.out, E2.out]
    exact ⟨rfl, R1.out, R2.out, R3.out⟩
  · have t1 : (cur != ox) = true := bne_iff_ne.mpr hq
    have E1 := Aside0.mk (show cswapC C (pk, ps, pp) ox x = { C with c3 := wrap64 (C.c3 + 1), c4 := wrap64 (C.c4 + 1) } from if_neg (fun h => hq (HC.out.symm.trans h)))
    have E2 := Aside0.mk (show cswapR C (pk, ps, pp) ox = false from decide_eq_false (fun h => hq (HC.out.symm.trans h)))
    clear hq
    go_enter Try.func90, Try.ntmps90
    go_wp2_with fail
    generalize ((w.alloc (.cells #[.int .i64 pk, .int .i64 ps, .int .i64 pp] 23)).setCell ⟨gc, 3, none⟩ (.int .i64 (wrap64 (C.c3 + 1)))) = w1 at *
    refine start_ (n := 8) (S := fun w' => w'.cell? ⟨gc, 0, none⟩ = some (.map (some gm)) ∧ w'.cell? ⟨w.heap.size, 0, none⟩ = some (.int .i64 pk) ∧ w'.cell? ⟨w.heap.size, 1, none⟩ = some (.int .i64 ps) ∧ w'.cell? ⟨w.heap.size, 2, none⟩ = some (.int .i64 pp) ∧ (Instr.lookup 129 (.map (some gm)) (.agg #[.int .i64 pk, .int .i64 ps, .int .i64 pp]) false).run Try.prog w' = .ok (.int .u64 cur) w') (ds := []) #[false, false, false, false, false, false, false, false] (by kernel_rfl) rfl rfl ⟨(blk_cell (blk_drew JI.out.blk) 0).trans rfl, (blk_cell (blk_drew KB.out) 0).trans rfl, (blk_cell (blk_drew KB.out) 1).trans rfl, (blk_cell (blk_drew KB.out) 2).trans rfl, (HL.out _ JI.out.drew.map)⟩ (fun hHeld => ?_)
    refine pure_ (i := 0) (N := some 20) (v := ?_) (a' := ?_) #[true, false, false, false, false, false, false, false] rfl rfl (by kernel_rfl) (fun _ _ _ h => h) (Or.inl ⟨by rfl, ?_⟩) ?_ ?_
    rotate_left
    · intro w'
      go_simp
      with_reducible rfl
    rotate_left
    · simp only [Act.put, List.setIfInBounds_toArray, List.set_cons_zero, List.set_cons_succ, i64_w, i32_w]
      rfl
    refine pure_ (i := 1) (N := some 21) (v := ?_) (a' := ?_) #[true, true, false, false, false, false, false, false] rfl rfl (by kernel_rfl) (fun _ _ _ h => h) (Or.inl ⟨by rfl, ?_⟩) ?_ ?_
    rotate_left
    · intro w'
      go_simp
      with_reducible rfl
    rotate_left
    · simp only [Act.put, List.setIfInBounds_toArray, List.set_cons_zero, List.set_cons_succ, i64_w, i32_w]
      rfl
    refine pure_ (i := 2) (N := some 22) (v := ?_) (a' := ?_) #[true, true, true, false, false, false, false, false] rfl rfl (by kernel_rfl) (fun _ _ _ h => h) (Or.inl ⟨by rfl, ?_⟩) ?_ ?_
    rotate_left
    · intro w'
      go_simp
      with_reducible rfl
    rotate_left
    · simp only [Act.put, List.setIfInBounds_toArray, List.set_cons_zero, List.set_cons_succ, i64_w, i32_w]
      rfl
    refine pure_ (i := 6) (N := some 26) (v := ?_) (a' := ?_) #[true, true, true, false, false, false, true, false] rfl rfl (by kernel_rfl) (fun _ _ _ h => h) (Or.inl ⟨by rfl, ?_⟩) ?_ ?_
    rotate_left
    · intro w'
      go_simp
      with_reducible rfl
    rotate_left
    · simp only [Act.put, List.setIfInBounds_toArray, List.set_cons_zero, List.set_cons_succ, i64_w, i32_w]
      rfl
    refine take_ (i := 3) (N := some 23) (v := ?_) (a' := ?_) #[true, true, true, true, false, false, true, false] rfl rfl (by kernel_rfl) (fun _ _ _ h => h) (Or.inl ⟨by rfl, ?_⟩) hHeld ?_ ?_
    rotate_left
    · rintro w' ⟨s0, s1, s2, s3, s4⟩
      go_simp
      with_reducible rfl
    rotate_left
    · simp only [Act.put, List.setIfInBounds_toArray, List.set_cons_zero, List.set_cons_succ, i64_w, i32_w]
      rfl
    refine take_ (i := 4) (N := some 24) (v := ?_) (a' := ?_) #[true, true, true, true, true, false, true, false] rfl rfl (by kernel_rfl) (fun _ _ _ h => h) (Or.inl ⟨by rfl, ?_⟩) hHeld ?_ ?_
    rotate_left
    · rintro w' ⟨s0, s1, s2, s3, s4⟩
      go_simp
      with_reducible rfl
    rotate_left
    · simp only [Act.put, List.setIfInBounds_toArray, List.set_cons_zero, List.set_cons_succ, i64_w, i32_w]
      rfl
    refine take_ (i := 5) (N := some 25) (v := ?_) (a' := ?_) #[true, true, true, true, true, true, true, false] rfl rfl (by kernel_rfl) (fun _ _ _ h => h) (Or.inl ⟨by rfl, ?_⟩) hHeld ?_ ?_
    rotate_left
    · rintro w' ⟨s0, s1, s2, s3, s4⟩
      go_simp
      with_reducible rfl
    rotate_left
    · simp only [Act.put, List.setIfInBounds_toArray, List.set_cons_zero, List.set_cons_succ, i64_w, i32_w]
      rfl
    refine pure_ (i := 7) (N := some 27) (v := ?_) (a' := ?_) #[true, true, true, true, true, true, true, true] rfl rfl (by kernel_rfl) (fun _ _ _ h => h) (Or.inl ⟨by rfl, ?_⟩) ?_ ?_
    rotate_left
    · intro w'
      go_simp
      with_reducible rfl
    rotate_left
    · simp only [Act.put, List.setIfInBounds_toArray, List.set_cons_zero, List.set_cons_succ, i64_w, i32_w]
      rfl
    refine done_ (by kernel_rfl) ?_
    have c6 : w1.drew.cell? ⟨gc, 4, none⟩ = some (.int .i64 C.c4) := (blk_cell (blk_drew JI.out.blk) 4).trans rfl
    have f6 := blk_frozen (blk_drew JI.out.blk) 4
    go_wp2_with fail
    go_ret
    rw [E1.out, E2.out]
    exact ⟨rfl, JI.out.drew.count 4 (.int .i64 (wrap64 (C.c4 + 1))) _ rfl rfl, (below_drew JB.out).setCell (p := ⟨gc, 4, none⟩) JI.out.b0 _, JF.out.drew.set (p := ⟨gc, 4, none⟩) (fun _ => .inl rfl) _⟩
def caddC (C : CSt) (k : K3) (n : Int) : CSt := { C with m := wput C.m k (IntKind.u64.wrap (getw C.m k + n)), c5 := wrap64 (C.c5 + 1) }
set_option maxHeartbeats 4000000 in
set_option maxRecDepth 100000 in
theorem cadd_T (gc gm : Nat) (C : CSt) (pk ps pp n : Int) (w0 w : World) (hI : CellsIs w0 w gc gm C) (hB : Below w0.heap.size w0 w) :
    Calls Try.prog 91 #[.pointer (some ⟨gc, 0, none⟩), .agg #[.int .i64 pk, .int .i64 ps, .int .i64 pp], .int .u64 n] w (CPost w0 w gc gm (caddC C (pk, ps, pp) n) (.int .u64 (getw C.m (pk, ps, pp)))) := by
  have hu131 := Try.underlying131
  have hu23 := Try.underlying23
  have hu38 := Try.underlying38
  have JI0 := Aside0.mk (hI.alloc (.cells #[.int .i64 pk, .int .i64 ps, .int .i64 pp] 23))
  have c_ : (w.alloc (.cells #[.int .i64 pk, .int .i64 ps, .int .i64 pp] 23)).cell? ⟨gc, 5, none⟩ = some (.int .i64 C.c5) := (blk_cell JI0.out.blk 5).trans rfl
  have f_ := blk_frozen JI0.out.blk 5
  have JI := Aside0.mk (JI0.out.count 5 (.int .i64 (wrap64 (C.c5 + 1))) { C with c5 := wrap64 (C.c5 + 1) } rfl rfl)
  have N0 := Aside0.mk (show w.heap.size ≠ gc by have := blk_lt hI.blk; omega)
  have KB := Aside0.mk (blk_far (p := ⟨gc, 5, none⟩) (blk_new w (.cells #[.int .i64 pk, .int .i64 ps, .int .i64 pp] 23)) N0.out (.int .i64 (wrap64 (C.c5 + 1))))
  have JB := Aside0.mk ((below_alloc hB (.cells #[.int .i64 pk, .int .i64 ps, .int .i64 pp] 23)).setCell (p := ⟨gc, 5, none⟩) hI.b0 (.int .i64 (wrap64 (C.c5 + 1))))
  have JF := Aside0.mk (((Fr.refl (CellsS gc gm) w).alloc (.cells #[.int .i64 pk, .int .i64 ps, .int .i64 pp] 23)).set (p := ⟨gc, 5, none⟩) (fun _ => .inl rfl) (.int .i64 (wrap64 (C.c5 + 1))))
  have a0 : ((w.alloc (.cells #[.int .i64 pk, .int .i64 ps, .int .i64 pp] 23)).setCell ⟨gc, 5, none⟩ (.int .i64 (wrap64 (C.c5 + 1)))).cell? ⟨w.heap.size, 0, none⟩ = some (.int .i64 pk) := (blk_cell KB.out 0).trans rfl
  have a1 : ((w.alloc (.cells #[.int .i64 pk, .int .i64 ps, .int .i64 pp] 23)).setCell ⟨gc, 5, none⟩ (.int .i64 (wrap64 (C.c5 + 1)))).cell? ⟨w.heap.size, 1, none⟩ = some (.int .i64 ps) := (blk_cell KB.out 1).trans rfl
  have a2 : ((w.alloc (.cells #[.int .i64 pk, .int .i64 ps, .int .i64 pp] 23)).setCell ⟨gc, 5, none⟩ (.int .i64 (wrap64 (C.c5 + 1)))).cell? ⟨w.heap.size, 2, none⟩ = some (.int .i64 pp) := (blk_cell KB.out 2).trans rfl
  clear hI hB JI0 N0
  obtain ⟨cur, hcur⟩ : ∃ c, getw C.m (pk, ps, pp) = c := ⟨_, rfl⟩
  have HL := Aside0.mk (show ∀ W, MapIs eP eU W gm C.m → (Instr.lookup 129 (.map (some gm)) (.agg #[.int .i64 pk, .int .i64 ps, .int .i64 pp]) false).run Try.prog W = .ok (.int .u64 cur) W from fun W hM => hcur ▸ M.look (P := Try.prog) keyP Try.underlying129 0 (zU W) hM (pk, ps, pp))
  have HC := Aside0.mk hcur
  clear hcur
  have E := Aside0.mk (show caddC C (pk, ps, pp) n = { C with m := wput C.m (pk, ps, pp) (IntKind.u64.wrap (cur + n)), c5 := wrap64 (C.c5 + 1) } by rw [← HC.out]; rfl)
  rw [HC.out, E.out]
  go_enter Try.func91, Try.ntmps91
  go_wp2_with fail
  generalize ((w.alloc (.cells #[.int .i64 pk, .int .i64 ps, .int .i64 pp] 23)).setCell ⟨gc, 5, none⟩ (.int .i64 (wrap64 (C.c5 + 1)))) = w1 at *
  refine start_ (n := 7) (S := fun w' => w'.cell? ⟨gc, 0, none⟩ = some (.map (some gm)) ∧ w'.cell? ⟨w.heap.size, 0, none⟩ = some (.int .i64 pk) ∧ w'.cell? ⟨w.heap.size, 1, none⟩ = some (.int .i64 ps) ∧ w'.cell? ⟨w.heap.size, 2, none⟩ = some (.int .i64 pp) ∧ (Instr.lookup 129 (.map (some gm)) (.agg #[.int .i64 pk, .int .i64 ps, .int .i64 pp]) false).run Try.prog w' = .ok (.int .u64 cur) w') (ds := []) #[false, false, false, false, false, false, false] (by kernel_rfl) rfl rfl ⟨(blk_cell (blk_drew JI.out.blk) 0).trans rfl, (blk_cell (blk_drew KB.out) 0).trans rfl, (blk_cell (blk_drew KB.out) 1).trans rfl, (blk_cell (blk_drew KB.out) 2).trans rfl, (HL.out _ JI.out.drew.map)⟩ (fun hHeld => ?_)
  refine pure_ (i := 0) (N := some 19) (v := ?_) (a' := ?_) #[true, false, false, false, false, false, false] rfl rfl (by kernel_rfl) (fun _ _ _ h => h) (Or.inl ⟨by rfl, ?_⟩) ?_ ?_
  rotate_left
  · intro w'
    go_simp
    with_reducible rfl
  rotate_left
  · simp only [Act.put, List.setIfInBounds_toArray, List.set_cons_zero, List.set_cons_succ, i64_w, i32_w]
    rfl
  refine pure_ (i := 1) (N := some 20) (v := ?_) (a' := ?_) #[true, true, false, false, false, false, false] rfl rfl (by kernel_rfl) (fun _ _ _ h => h) (Or.inl ⟨by rfl, ?_⟩) ?_ ?_
  rotate_left
  · intro w'
    go_simp
    with_reducible rfl
  rotate_left
  · simp only [Act.put, List.setIfInBounds_toArray, List.set_cons_zero, List.set_cons_succ, i64_w, i32_w]
    rfl
  refine pure_ (i := 2) (N := some 21) (v := ?_) (a' := ?_) #[true, true, true, false, false, false, false] rfl rfl (by kernel_rfl) (fun _ _ _ h => h) (Or.inl ⟨by rfl, ?_⟩) ?_ ?_
  rotate_left
  · intro w'
    go_simp
    with_reducible rfl
  rotate_left
  · simp only [Act.put, List.setIfInBounds_toArray, List.set_cons_zero, List.set_cons_succ, i64_w, i32_w]
    rfl
  refine take_ (i := 3) (N := some 22) (v := ?_) (a' := ?_) #[true, true, true, true, false, false, false] rfl rfl (by kernel_rfl) (fun _ _ _ h => h) (Or.inl ⟨by rfl, ?_⟩) hHeld ?_ ?_
  rotate_left
  · rintro w' ⟨s0, s1, s2, s3, s4⟩
    go_simp
    with_reducible rfl
  rotate_left
  · simp only [Act.put, List.setIfInBounds_toArray, List.set_cons_zero, List.set_cons_succ, i64_w, i32_w]
    rfl
  refine take_ (i := 4) (N := some 23) (v := ?_) (a' := ?_) #[true, true, true, true, true, false, false] rfl rfl (by kernel_rfl) (fun _ _ _ h => h) (Or.inl ⟨by rfl, ?_⟩) hHeld ?_ ?_
  rotate_left
  · rintro w' ⟨s0, s1, s2, s3, s4⟩
    go_simp
    with_reducible rfl
  rotate_left
  · simp only [Act.put, List.setIfInBounds_toArray, List.set_cons_zero, List.set_cons_succ, i64_w, i32_w]
    rfl
  refine take_ (i := 5) (N := some 24) (v := ?_) (a' := ?_) #[true, true, true, true, true, true, false] rfl rfl (by kernel_rfl) (fun _ _ _ h => h) (Or.inl ⟨by rfl, ?_⟩) hHeld ?_ ?_
  rotate_left
  · rintro w' ⟨s0, s1, s2, s3, s4⟩
    go_simp
    with_reducible rfl
  rotate_left
  · simp only [Act.put, List.setIfInBounds_toArray, List.set_cons_zero, List.set_cons_succ, i64_w, i32_w]
    rfl
  refine pure_ (i := 6) (N := some 7) (v := ?_) (a' := ?_) #[true, true, true, true, true, true, true] rfl rfl (by kernel_rfl) (fun _ _ _ h => h) (Or.inl ⟨by rfl, ?_⟩) ?_ ?_
  rotate_left
  · intro w'
    go_simp
    with_reducible rfl
  rotate_left
  · simp only [Act.put, List.setIfInBounds_toArray, List.set_cons_zero, List.set_cons_succ, i64_w, i32_w]
    rfl
  refine done_ (by kernel_rfl) ?_
  have k0 : w1.drew.cell? ⟨w.heap.size, 0, none⟩ = some (.int .i64 pk) := (blk_cell (blk_drew KB.out) 0).trans rfl
  have k1 : w1.drew.cell? ⟨w.heap.size, 1, none⟩ = some (.int .i64 ps) := (blk_cell (blk_drew KB.out) 1).trans rfl
  have k2 : w1.drew.cell? ⟨w.heap.size, 2, none⟩ = some (.int .i64 pp) := (blk_cell (blk_drew KB.out) 2).trans rfl
  go_wp2_with fail
  refine (cput_T gc gm _ pk ps pp (IntKind.u64.wrap (cur + n)) w0 _ JI.out.drew (below_drew JB.out)).mono ?_
  rintro e w2 ⟨rfl, h1, h2, h3⟩
  have R1 := Aside0.mk h1
  have R2 := Aside0.mk h2
  have R3 := Aside0.mk (JF.out.drew.trans h3)
  clear h1 h2 h3
  go_wp2_with fail
  go_ret
  exact ⟨rfl, R1.out, R2.out, R3.out⟩
set_option maxHeartbeats 4000000 in
set_option maxRecDepth 100000 in
theorem cpeek_T (gc gm : Nat) (C : CSt) (pk ps pp : Int) (w0 w : World) (hI : CellsIs w0 w gc gm C) :
    Calls Try.prog 92 #[.pointer (some ⟨gc, 0, none⟩), .agg #[.int .i64 pk, .int .i64 ps, .int .i64 pp]] w fun e w' => e = .returned (.int .u64 (getw C.m (pk, ps, pp))) ∧ Below w.heap.size w w' := by
  have hu131 := Try.underlying131
  have hu23 := Try.underlying23
  have JI := Aside0.mk (hI.alloc (.cells #[.int .i64 pk, .int .i64 ps, .int .i64 pp] 23))
  have KB := Aside0.mk (blk_new w (.cells #[.int .i64 pk, .int .i64 ps, .int .i64 pp] 23))
  clear hI
  obtain ⟨cur, hcur⟩ : ∃ c, getw C.m (pk, ps, pp) = c := ⟨_, rfl⟩
  have HL := Aside0.mk (show ∀ W, MapIs eP eU W gm C.m → (Instr.lookup 129 (.map (some gm)) (.agg #[.int .i64 pk, .int .i64 ps, .int .i64 pp]) false).run Try.prog W = .ok (.int .u64 cur) W from fun W hM => hcur ▸ M.look (P := Try.prog) keyP Try.underlying129 0 (zU W) hM (pk, ps, pp))
  have HC := Aside0.mk hcur
  clear hcur
  rw [HC.out]
  go_enter Try.func92, Try.ntmps92
  go_wp2_with fail
  refine start_ (n := 7) (S := fun w' => w'.cell? ⟨gc, 0, none⟩ = some (.map (some gm)) ∧ w'.cell? ⟨w.heap.size, 0, none⟩ = some (.int .i64 pk) ∧ w'.cell? ⟨w.heap.size, 1, none⟩ = some (.int .i64 ps) ∧ w'.cell? ⟨w.heap.size, 2, none⟩ = some (.int .i64 pp) ∧ (Instr.lookup 129 (.map (some gm)) (.agg #[.int .i64 pk, .int .i64 ps, .int .i64 pp]) false).run Try.prog w' = .ok (.int .u64 cur) w') (ds := []) #[false, false, false, false, false, false, false] (by kernel_rfl) rfl rfl ⟨(blk_cell (blk_drew JI.out.blk) 0).trans rfl, (blk_cell (blk_drew KB.out) 0).trans rfl, (blk_cell (blk_drew KB.out) 1).trans rfl, (blk_cell (blk_drew KB.out) 2).trans rfl, (HL.out _ JI.out.drew.map)⟩ (fun hHeld => ?_)
  refine pure_ (i := 0) (N := some 7) (v := ?_) (a' := ?_) #[true, false, false, false, false, false, false] rfl rfl (by kernel_rfl) (fun _ _ _ h => h) (Or.inl ⟨by rfl, ?_⟩) ?_ ?_
  rotate_left
  · intro w'
    go_simp
    with_reducible rfl
  rotate_left
  · simp only [Act.put, List.setIfInBounds_toArray, List.set_cons_zero, List.set_cons_succ, i64_w, i32_w]
    rfl
  refine pure_ (i := 1) (N := some 8) (v := ?_) (a' := ?_) #[true, true, false, false, false, false, false] rfl rfl (by kernel_rfl) (fun _ _ _ h => h) (Or.inl ⟨by rfl, ?_⟩) ?_ ?_
  rotate_left
  · intro w'
    go_simp
    with_reducible rfl
  rotate_left
  · simp only [Act.put, List.setIfInBounds_toArray, List.set_cons_zero, List.set_cons_succ, i64_w, i32_w]
    rfl
  refine pure_ (i := 2) (N := some 9) (v := ?_) (a' := ?_) #[true, true, true, false, false, false, false] rfl rfl (by kernel_rfl) (fun _ _ _ h => h) (Or.inl ⟨by rfl, ?_⟩) ?_ ?_
  rotate_left
  · intro w'
    go_simp
    with_reducible rfl
  rotate_left
  · simp only [Act.put, List.setIfInBounds_toArray, List.set_cons_zero, List.set_cons_succ, i64_w, i32_w]
    rfl
  refine take_ (i := 3) (N := some 10) (v := ?_) (a' := ?_) #[true, true, true, true, false, false, false] rfl rfl (by kernel_rfl) (fun _ _ _ h => h) (Or.inl ⟨by rfl, ?_⟩) hHeld ?_ ?_
  rotate_left
  · rintro w' ⟨s0, s1, s2, s3, s4⟩
    go_simp
    with_reducible rfl
  rotate_left
  · simp only [Act.put, List.setIfInBounds_toArray, List.set_cons_zero, List.set_cons_succ, i64_w, i32_w]
    rfl
  refine take_ (i := 4) (N := some 11) (v := ?_) (a' := ?_) #[true, true, true, true, true, false, false] rfl rfl (by kernel_rfl) (fun _ _ _ h => h) (Or.inl ⟨by rfl, ?_⟩) hHeld ?_ ?_
  rotate_left
  · rintro w' ⟨s0, s1, s2, s3, s4⟩
    go_simp
    with_reducible rfl
  rotate_left
  · simp only [Act.put, List.setIfInBounds_toArray, List.set_cons_zero, List.set_cons_succ, i64_w, i32_w]
    rfl
  refine take_ (i := 5) (N := some 12) (v := ?_) (a' := ?_) #[true, true, true, true, true, true, false] rfl rfl (by kernel_rfl) (fun _ _ _ h => h) (Or.inl ⟨by rfl, ?_⟩) hHeld ?_ ?_
  rotate_left
  · rintro w' ⟨s0, s1, s2, s3, s4⟩
    go_simp
    with_reducible rfl
  rotate_left
  · simp only [Act.put, List.setIfInBounds_toArray, List.set_cons_zero, List.set_cons_succ, i64_w, i32_w]
    rfl
  refine pure_ (i := 6) (N := some 4) (v := ?_) (a' := ?_) #[true, true, true, true, true, true, true] rfl rfl (by kernel_rfl) (fun _ _ _ h => h) (Or.inl ⟨by rfl, ?_⟩) ?_ ?_
  rotate_left
  · intro w'
    go_simp
    with_reducible rfl
  rotate_left
  · simp only [Act.put, List.setIfInBounds_toArray, List.set_cons_zero, List.set_cons_succ, i64_w, i32_w]
    rfl
  refine done_ (by kernel_rfl) ?_
  go_wp2_with fail
  go_ret
  exact ⟨rfl, below_drew (below_alloc (Below.refl _ _) _)⟩
set_option maxHeartbeats 4000000 in
set_option maxRecDepth 100000 in
theorem ccount_T (gc gm : Nat) (C : CSt) (w0 w : World) (hI : CellsIs w0 w gc gm C) :
    Calls Try.prog 93 #[.pointer (some ⟨gc, 0, none⟩)] w fun e w' => e = .returned (.agg #[.int .i64 C.c1, .int .i64 C.c2, .int .i64 C.c3, .int .i64 C.c4, .int .i64 C.c5]) ∧ Below w.heap.size w w' := by
  have hu131 := Try.underlying131
  have hu38 := Try.underlying38
  have c1 : ∀ o, (w.alloc o).cell? ⟨gc, 1, none⟩ = some (.int .i64 C.c1) := fun o => (blk_cell (blk_alloc hI.blk o) 1).trans rfl
  have c2 : ∀ o, (w.alloc o).cell? ⟨gc, 2, none⟩ = some (.int .i64 C.c2) := fun o => (blk_cell (blk_alloc hI.blk o) 2).trans rfl
  have c3 : ∀ o, (w.alloc o).cell? ⟨gc, 3, none⟩ = some (.int .i64 C.c3) := fun o => (blk_cell (blk_alloc hI.blk o) 3).trans rfl
  have c4 : ∀ o, (w.alloc o).cell? ⟨gc, 4, none⟩ = some (.int .i64 C.c4) := fun o => (blk_cell (blk_alloc hI.blk o) 4).trans rfl
  have c5 : ∀ o, (w.alloc o).cell? ⟨gc, 5, none⟩ = some (.int .i64 C.c5) := fun o => (blk_cell (blk_alloc hI.blk o) 5).trans rfl
  clear hI
  go_enter Try.func93, Try.ntmps93
  go_wp2_with fail
  refine bodyPost_ret (results_cell_row rfl _ _ w.heap.size 38 #[.int .i64 C.c1, .int .i64 C.c2, .int .i64 C.c3, .int .i64 C.c4, .int .i64 C.c5] (0, 0) _ rfl (blk_new w _) Try.underlying38 rfl (by kernel_rfl)) rfl ?_
  exact ⟨rfl, below_alloc (Below.refl _ _) _⟩
def C0 : CSt := ⟨[], 0, 0, 0, 0, 0⟩
set_option maxHeartbeats 4000000 in
set_option maxRecDepth 100000 in
theorem cnew_T (w : World) : Calls Try.prog 86 #[] w fun e w' => ∃ gc gm, e = .returned (.pointer (some ⟨gc, 0, none⟩)) ∧ CellsIs w w' gc gm C0 ∧ Below w.heap.size w w' := by
  have hu131 := Try.underlying131
  have hmm := @run_makeMap Try.prog
  go_enter Try.func86, Try.ntmps86
  go_wp2_with fail
  go_ret
  refine ⟨_, _, rfl, ⟨blk_new2 w _ _, (MapIs.new w).below (below_alloc (Below.refl _ _) _), once_nil, by simp, by simp⟩, below_alloc (below_alloc (Below.refl _ _) _) _⟩
theorem cloadNil_T (pk ps pp : Int) (w : World) : Calls Try.prog 88 #[.pointer none, .agg #[.int .i64 pk, .int .i64 ps, .int .i64 pp]] w fun e w' => e = .returned (.int .u64 0) ∧ Below w.heap.size w w' := by
  have hu23 := Try.underlying23
  have hu38 := Try.underlying38
  go_enter Try.func88, Try.ntmps88
  go_wp2_with fail
  go_ret
  exact ⟨rfl, below_alloc (Below.refl _ _) _⟩
theorem cstoreNil_T (pk ps pp x : Int) (w : World) : Calls Try.prog 89 #[.pointer none, .agg #[.int .i64 pk, .int .i64 ps, .int .i64 pp], .int .u64 x] w fun e w' => e = .returned (.tuple #[]) ∧ Below w.heap.size w w' := by
  have hu23 := Try.underlying23
  have hu38 := Try.underlying38
  go_enter Try.func89, Try.ntmps89
  go_wp2_with fail
  refine bodyPost_ret (results_none rfl _ _ _) rfl ?_
  exact ⟨rfl, below_alloc (Below.refl _ _) _⟩
theorem cswapNil_T (pk ps pp ox x : Int) (w : World) : Calls Try.prog 90 #[.pointer none, .agg #[.int .i64 pk, .int .i64 ps, .int .i64 pp], .int .u64 ox, .int .u64 x] w fun e w' => e = .returned (.bool false) ∧ Below w.heap.size w w' := by
  have hu23 := Try.underlying23
  have hu38 := Try.underlying38
  go_enter Try.func90, Try.ntmps90
  go_wp2_with fail
  go_ret
  exact ⟨rfl, below_alloc (Below.refl _ _) _⟩
theorem caddNil_T (pk ps pp n : Int) (w : World) : Calls Try.prog 91 #[.pointer none, .agg #[.int .i64 pk, .int .i64 ps, .int .i64 pp], .int .u64 n] w fun e w' => e = .returned (.int .u64 0) ∧ Below w.heap.size w w' := by
  have hu23 := Try.underlying23
  have hu38 := Try.underlying38
  go_enter Try.func91, Try.ntmps91
  go_wp2_with fail
  go_ret
  exact ⟨rfl, below_alloc (Below.refl _ _) _⟩
theorem cpeekNil_T (pk ps pp : Int) (w : World) : Calls Try.prog 92 #[.pointer none, .agg #[.int .i64 pk, .int .i64 ps, .int .i64 pp]] w fun e w' => e = .returned (.int .u64 0) ∧ Below w.heap.size w w' := by
  have hu23 := Try.underlying23
  have hu38 := Try.underlying38
  go_enter Try.func92, Try.ntmps92
  go_wp2_with fail
  go_ret
  exact ⟨rfl, below_alloc (Below.refl _ _) _⟩
theorem ccountNil_T (w : World) : Calls Try.prog 93 #[.pointer none] w fun e w' => e = .returned (.agg #[.int .i64 0, .int .i64 0, .int .i64 0, .int .i64 0, .int .i64 0]) ∧ Below w.heap.size w w' := by
  have hu23 := Try.underlying23
  have hu38 := Try.underlying38
  go_enter Try.func93, Try.ntmps93
  go_wp2_with fail
  refine bodyPost_ret (results_cell_row rfl _ _ w.heap.size 38 #[.int .i64 0, .int .i64 0, .int .i64 0, .int .i64 0, .int .i64 0] (0, 0) _ rfl (blk_new w _) Try.underlying38 rfl (by kernel_rfl)) rfl ?_
  exact ⟨rfl, below_alloc (Below.refl _ _) _⟩
end Go.Proofs.Ytlpnggapndokeaa.PIdealKeeps

