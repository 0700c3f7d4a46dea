/-
The watched memory: what its functions compute.
-/
import Derived.Test.YtlpnggapndokeaaPlain
import Derived.Test.YtlpnggapndokeaaWords
import Derived.Test.YtlpnggapndokeaaShort
namespace Go.Proofs.Ytlpnggapndokeaa.PIdealKeeps
open Go Go.RowKit Go.Proofs.YtlpnggapndokeaaW.PrintWords Go.Proofs.YtlpnggapndokeaaW.PrintLast Go.Proofs.YtlpnggapndokeaaW.PrintMore Go.Proofs.Ytlpnggapndokeaa.M
attribute [local go_sem] max2_int min2_int max_two min_two max_three min_three max_four min_four
set_option linter.unusedVariables false
set_option linter.unusedSimpArgs false
structure GSt where
  p : CSt
  leads : List (K3 × Int)
  now : List (Int × Int)
  row : List Int
  stale : Int
  faults : Int
structure GhostIs (w0 w : World) (gg gp gc gm gl gs g3 : Nat) (G : GSt) : Prop where
  blk : w.heap[gg]? = some (.cells #[.pointer (some ⟨gp, 0, none⟩), .map (some gl), .pointer (some ⟨gs, 0, none⟩), .int .i64 G.stale, .int .i64 G.faults] 121 (0, 0))
  plain : PlainIs w0 w gp gc gm G.p
  leads : MapIs eP eI w gl G.leads
  soul : ∃ v, SoulIs w0 w gs g3 v G.now G.row
  b : w0.heap.size ≤ gg
  bl : w0.heap.size ≤ gl
  n1 : gm ≠ gl
  n2 : gm ≠ g3
  n3 : gl ≠ g3
def GhostS (gg gc gm gl gs g3 : Nat) (j : Nat) (o : Obj) : Prop := j = gg ∨ j = gl ∨ CellsS gc gm j o ∨ SoulS gs g3 j o
section
variable {w0 w w1 : World} {gg gp gc gm gl gs g3 : Nat} {G : GSt} {S : Nat → Obj → Prop}
theorem GhostIs.below (h : GhostIs w0 w gg gp gc gm gl gs g3 G) (hb : Below w.heap.size w w1) : GhostIs w0 w1 gg gp gc gm gl gs g3 G := by
  obtain ⟨v, hv⟩ := h.soul
  exact ⟨blk_below h.blk hb, h.plain.below hb, h.leads.below hb, ⟨v, hv.below hb⟩, h.b, h.bl, h.n1, h.n2, h.n3⟩
theorem GhostIs.alloc (h : GhostIs w0 w gg gp gc gm gl gs g3 G) (o : Obj) : GhostIs w0 (w.alloc o) gg gp gc gm gl gs g3 G := h.below (below_alloc (Below.refl _ _) o)
theorem GhostIs.drew (h : GhostIs w0 w gg gp gc gm gl gs g3 G) : GhostIs w0 w.drew gg gp gc gm gl gs g3 G := h.below (below_drew (Below.refl _ _))
theorem GhostIs.rebase {wb : World} (h : GhostIs wb w gg gp gc gm gl gs g3 G) (hle : w0.heap.size ≤ wb.heap.size) : GhostIs w0 w gg gp gc gm gl gs g3 G := by
  obtain ⟨v, hv⟩ := h.soul
  exact ⟨h.blk, h.plain.rebase hle, h.leads, ⟨v, hv.rebase hle⟩, Nat.le_trans hle h.b, Nat.le_trans hle h.bl, h.n1, h.n2, h.n3⟩
/-- A block of another type is written. -/
theorem GhostIs.far (h : GhostIs w0 w gg gp gc gm gl gs g3 G) {p : Nat} {cs : Array Value} {t : TypeId} (hb : w.heap[p]? = some (.cells cs t (0, 0))) (h1 : t ≠ 121) (h2 : t ≠ 116) (h3 : t ≠ 131) (h4 : t ≠ 114) (h5 : t ≠ 3) (i : Nat) (u : Value) : GhostIs w0 (w.setCell ⟨p, i, none⟩ u) gg gp gc gm gl gs g3 G := by
  obtain ⟨v, hv⟩ := h.soul
  have hf := Fr.set1 hb i u
  refine ⟨hf.blk h.blk ?_, h.plain.far hb h2 h3 i u, mapIs_frm h.leads hf ?_, ⟨v, hv.fr hf ?_⟩, h.b, h.bl, h.n1, h.n2, h.n3⟩
  · rintro ⟨e, _⟩
    subst e
    exact blk_ne h.blk hb (Ne.symm h1) rfl
  · rintro es c ⟨_, e⟩
    cases e
  · rintro j o ⟨rfl, rfl⟩
    refine ⟨fun e => ?_, fun e => mapIs_ne hv.map hb e, ?_⟩
    · subst e
      exact blk_ne hb hv.blk h4 rfl
    · rintro ⟨cells, e⟩
      injection e with _ e
      exact h5 e
/-- The cells that a plain access may turn, by kind. -/
theorem cells_typed {gc gm : Nat} {C : CSt} (h : CellsIs w0 w gc gm C) (hf : Fr (CellsS gc gm) w w1) : Fr (fun j o => (j = gc ∧ ∃ cs, o = .cells cs 131 (0, 0)) ∨ (j = gm ∧ ∃ es c, o = .map es c)) w w1 := by
  refine ⟨hf.1, fun j o hj hs => hf.2 j o hj ?_⟩
  rintro (e | e)
  · refine hs (.inl ⟨e, ?_⟩)
    subst e
    have := h.blk.symm.trans hj
    injection this with this
    exact ⟨_, this.symm⟩
  · refine hs (.inr ⟨e, ?_⟩)
    subst e
    obtain ⟨es, c, hm, _⟩ := h.map
    have := hm.symm.trans hj
    injection this with this
    exact ⟨_, _, this.symm⟩
theorem GhostIs.turnP (h : GhostIs w0 w gg gp gc gm gl gs g3 G) {p' : CSt} (h1 : PlainIs w0 w1 gp gc gm p') (hf : Fr (CellsS gc gm) w w1) : GhostIs w0 w1 gg gp gc gm gl gs g3 { G with p := p' } := by
  obtain ⟨v, hv⟩ := h.soul
  have hg := cells_typed h.plain.cells hf
  refine ⟨h.plain.cells.stays hf h.blk (by decide), h1, mapIs_frm h.leads hg ?_, ⟨v, hv.fr hg ?_⟩, h.b, h.bl, h.n1, h.n2, h.n3⟩
  · rintro es c (⟨_, cs, e⟩ | ⟨e, _⟩)
    · cases e
    · exact h.n1 e.symm
  · rintro j o (⟨rfl, cs, rfl⟩ | ⟨rfl, es, c, rfl⟩)
    · refine ⟨fun e => ?_, fun e => mapIs_ne hv.map h.plain.cells.blk e, ?_⟩
      · subst e
        exact blk_ne h.plain.cells.blk hv.blk (by decide) rfl
      · rintro ⟨cells, e⟩
        injection e with _ e
        exact absurd e (by decide)
    · refine ⟨fun e => mapIs_ne h.plain.cells.map hv.blk e.symm, h.n2, ?_⟩
      rintro ⟨cells, e⟩
      cases e
theorem GhostIs.turnS (h : GhostIs w0 w gg gp gc gm gl gs g3 G) (hf : Fr (SoulS gs g3) w w1) {now' : List (Int × Int)} {row' : List Int} (hs : ∃ v', SoulIs w0 w1 gs g3 v' now' row') : GhostIs w0 w1 gg gp gc gm gl gs g3 { G with now := now', row := row' } := by
  obtain ⟨v, hv⟩ := h.soul
  have no : ∀ {p : Nat} {cs : Array Value} {t : TypeId}, w.heap[p]? = some (.cells cs t (0, 0)) → t ≠ 114 → t ≠ 3 → ∀ cs', ¬ SoulS gs g3 p (.cells cs' t (0, 0)) := by
    rintro p cs t hb h1 h2 cs' (e | e | ⟨cells, e⟩)
    · subst e; exact blk_ne hb hv.blk h1 rfl
    · exact mapIs_ne hv.map hb e
    · injection e with _ e
      exact h2 e
  refine ⟨hf.blk h.blk (no h.blk (by decide) (by decide) _), h.plain.fr hf (no h.plain.blk (by decide) (by decide)) (no h.plain.cells.blk (by decide) (by decide)) ?_, mapIs_frm h.leads hf ?_, hs, h.b, h.bl, h.n1, h.n2, h.n3⟩
  · rintro es c (e | e | ⟨cells, e⟩)
    · exact mapIs_ne h.plain.cells.map hv.blk e.symm
    · exact h.n2 e
    · cases e
  · rintro es c (e | e | ⟨cells, e⟩)
    · exact mapIs_ne h.leads hv.blk e.symm
    · exact h.n3 e
    · cases e
theorem GhostIs.lead (h : GhostIs w0 w gg gp gc gm gl gs g3 G) {o : Obj} {m : List (K3 × Int)} (hm : MapIs eP eI (setB w gl o) gl m) : GhostIs w0 (setB w gl o) gg gp gc gm gl gs g3 { G with leads := m } := by
  obtain ⟨v, hv⟩ := h.soul
  obtain ⟨es, c, hb, _⟩ := h.leads
  have hf := Fr.setB1 hb o
  refine ⟨hf.blk h.blk (fun x => mapIs_ne h.leads h.blk x.1), h.plain.fr hf (fun cs x => ?_) (fun cs x => ?_) (fun es c x => h.n1 x.1), hm, ⟨v, hv.fr hf ?_⟩, h.b, h.bl, h.n1, h.n2, h.n3⟩
  · cases x.2
  · cases x.2
  rintro j o ⟨rfl, rfl⟩
  refine ⟨fun e => mapIs_ne h.leads hv.blk e.symm, h.n3, ?_⟩
  rintro ⟨cells, hc⟩
  cases hc
theorem GhostIs.count (h : GhostIs w0 w gg gp gc gm gl gs g3 G) (i : Nat) (u : Value) (G' : GSt) (h1 : G'.p = G.p) (h2 : G'.leads = G.leads) (h3 : G'.now = G.now) (h4 : G'.row = G.row)
    (he : (#[.pointer (some ⟨gp, 0, none⟩), .map (some gl), .pointer (some ⟨gs, 0, none⟩), .int .i64 G.stale, .int .i64 G.faults] : Array Value).setIfInBounds i u = #[.pointer (some ⟨gp, 0, none⟩), .map (some gl), .pointer (some ⟨gs, 0, none⟩), .int .i64 G'.stale, .int .i64 G'.faults]) :
    GhostIs w0 (w.setCell ⟨gg, i, none⟩ u) gg gp gc gm gl gs g3 G' := by
  obtain ⟨v, hv⟩ := h.soul
  have hf := Fr.set1 h.blk i u
  refine ⟨blk_put h.blk i u he, ?_, ?_, ⟨v, ?_⟩, h.b, h.bl, h.n1, h.n2, h.n3⟩
  · rw [h1]; exact h.plain.far h.blk (by decide) (by decide) i u
  · rw [h2]
    refine mapIs_frm h.leads hf ?_
    rintro es c ⟨_, e⟩
    cases e
  · rw [h3, h4]
    refine hv.fr hf ?_
    rintro j o ⟨rfl, rfl⟩
    refine ⟨fun e => ?_, fun e => mapIs_ne hv.map h.blk e, ?_⟩
    · subst e
      exact blk_ne h.blk hv.blk (by decide) rfl
    · rintro ⟨cells, e⟩
      injection e with _ e
      exact absurd e (by decide)
theorem GhostIs.stays (h : GhostIs w0 w gg gp gc gm gl gs g3 G) (hf : Fr (GhostS gg gc gm gl gs g3) w w1) {p : Nat} {cs : Array Value} {t : TypeId} (hb : w.heap[p]? = some (.cells cs t (0, 0))) (h1 : t ≠ 121) (h2 : t ≠ 131) (h3 : t ≠ 114) (h4 : t ≠ 3) : w1.heap[p]? = some (.cells cs t (0, 0)) := by
  refine hf.blk hb (fun hS => ?_)
  obtain ⟨v, hv⟩ := h.soul
  rcases hS with e | e | (e | e) | e | e | ⟨cells, e⟩
  · subst e
    exact blk_ne hb h.blk h1 rfl
  · exact mapIs_ne h.leads hb e
  · subst e
    exact blk_ne hb h.plain.cells.blk h2 rfl
  · exact mapIs_ne h.plain.cells.map hb e
  · subst e
    exact blk_ne hb hv.blk h3 rfl
  · exact mapIs_ne hv.map hb e
  · injection e with _ e
    exact h4 e
theorem frP (hf : Fr (CellsS gc gm) w w1) : Fr (GhostS gg gc gm gl gs g3) w w1 := hf.mono (fun j o x => .inr (.inr (.inl x)))
theorem frS (hf : Fr (SoulS gs g3) w w1) : Fr (GhostS gg gc gm gl gs g3) w w1 := hf.mono (fun j o x => .inr (.inr (.inr x)))
end
/-- What an access leaves, and answers. -/
def GPost (w0 w : World) (gg gp gc gm gl gs g3 : Nat) (G : GSt) (r : Value) (e : Ending) (w' : World) : Prop := e = .returned r ∧ GhostIs w0 w' gg gp gc gm gl gs g3 G ∧ Below w0.heap.size w0 w' ∧ Fr (GhostS gg gc gm gl gs g3) w w'
/-- The same, but for the slots' rows. -/
def GhostT (gg gc gm gl : Nat) (j : Nat) (o : Obj) : Prop := j = gg ∨ j = gl ∨ CellsS gc gm j o ∨ False
theorem frPT {gg gc gm gl : Nat} {w w1 : World} (hf : Fr (CellsS gc gm) w w1) : Fr (GhostT gg gc gm gl) w w1 := hf.mono (fun j o x => .inr (.inr (.inl x)))
def GPostT (w0 w : World) (gg gp gc gm gl gs g3 : Nat) (G : GSt) (r : Value) (e : Ending) (w' : World) : Prop := e = .returned r ∧ GhostIs w0 w' gg gp gc gm gl gs g3 G ∧ Below w0.heap.size w0 w' ∧ Fr (GhostT gg gc gm gl) w w'
theorem GPostT.post {w0 w : World} {gg gp gc gm gl gs g3 : Nat} {G : GSt} {r : Value} {e : Ending} {w' : World} (h : GPostT w0 w gg gp gc gm gl gs g3 G r e w') : GPost w0 w gg gp gc gm gl gs g3 G r e w' :=
  ⟨h.1, h.2.1, h.2.2.1, h.2.2.2.mono (fun j o x => by
    rcases x with x | x | x | x
    · exact .inl x
    · exact .inr (.inl x)
    · exact .inr (.inr (.inl x))
    · exact x.elim)⟩
def staleR (G : GSt) (kd sl id : Int) : Bool := (kd == 5) && ((get G.now sl).getD 0 != id)
end Go.Proofs.Ytlpnggapndokeaa.PIdealKeeps

namespace Go.Proofs.Ytlpnggapndokeaa.PIdealKeeps
open Go Go.RowKit Go.Proofs.YtlpnggapndokeaaW.PrintWords Go.Proofs.YtlpnggapndokeaaW.PrintLast Go.Proofs.YtlpnggapndokeaaW.PrintMore Go.Proofs.Ytlpnggapndokeaa.M
attribute [local go_sem] max2_int min2_int max_two min_two max_three min_three max_four min_four
set_option linter.unusedVariables false
set_option linter.unusedSimpArgs false
set_option maxHeartbeats 4000000 in
set_option maxRecDepth 100000 in
theorem gunder_T (gg gp gc gm gl gs g3 : Nat) (G : GSt) (w0 w : World) (hI : GhostIs w0 w gg gp gc gm gl gs g3 G) : Calls Try.prog 96 #[.pointer (some ⟨gg, 0, none⟩)] w fun e w' => e = .returned (.pointer (some ⟨gp, 0, none⟩)) ∧ w' = w := by
  have hu121 := Try.underlying121
  have c_ : w.cell? ⟨gg, 0, none⟩ = some (.pointer (some ⟨gp, 0, none⟩)) := (blk_cell hI.blk 0).trans rfl
  clear hI
  go_enter Try.func96, Try.ntmps96
  go_wp2_with fail
  go_ret
  exact ⟨rfl, rfl⟩
theorem gunderNil_T (w : World) : Calls Try.prog 96 #[.pointer none] w fun e w' => e = .returned (.pointer none) ∧ w' = w := by
  go_enter Try.func96, Try.ntmps96
  go_wp2_with fail
  go_ret
  exact ⟨rfl, rfl⟩
set_option maxHeartbeats 4000000 in
set_option maxRecDepth 100000 in
theorem gsouls_T (gg gp gc gm gl gs g3 : Nat) (G : GSt) (w0 w : World) (hI : GhostIs w0 w gg gp gc gm gl gs g3 G) : Calls Try.prog 40 #[.pointer (some ⟨gg, 0, none⟩)] w fun e w' => e = .returned (.pointer (some ⟨gs, 0, none⟩)) ∧ w' = w := by
  have hu121 := Try.underlying121
  have c_ : w.cell? ⟨gg, 2, none⟩ = some (.pointer (some ⟨gs, 0, none⟩)) := (blk_cell hI.blk 2).trans rfl
  clear hI
  go_enter Try.func40, Try.ntmps40
  go_wp2_with fail
  go_ret
  exact ⟨rfl, rfl⟩
theorem gsoulsNil_T (w : World) : Calls Try.prog 40 #[.pointer none] w fun e w' => e = .returned (.pointer none) ∧ w' = w := by
  go_enter Try.func40, Try.ntmps40
  go_wp2_with fail
  go_ret
  exact ⟨rfl, rfl⟩
set_option maxHeartbeats 4000000 in
set_option maxRecDepth 100000 in
theorem gstale_T (gg gp gc gm gl gs g3 : Nat) (G : GSt) (w0 w : World) (hI : GhostIs w0 w gg gp gc gm gl gs g3 G) : Calls Try.prog 43 #[.pointer (some ⟨gg, 0, none⟩)] w fun e w' => e = .returned (.int .i64 G.stale) ∧ w' = w := by
  have hu121 := Try.underlying121
  have c_ : w.cell? ⟨gg, 3, none⟩ = some (.int .i64 G.stale) := (blk_cell hI.blk 3).trans rfl
  clear hI
  go_enter Try.func43, Try.ntmps43
  go_wp2_with fail
  go_ret
  exact ⟨rfl, rfl⟩
theorem gstaleNil_T (w : World) : Calls Try.prog 43 #[.pointer none] w fun e w' => e = .returned (.int .i64 0) ∧ w' = w := by
  go_enter Try.func43, Try.ntmps43
  go_wp2_with fail
  go_ret
  exact ⟨rfl, rfl⟩
set_option maxHeartbeats 4000000 in
set_option maxRecDepth 100000 in
theorem gfaults_T (gg gp gc gm gl gs g3 : Nat) (G : GSt) (w0 w : World) (hI : GhostIs w0 w gg gp gc gm gl gs g3 G) : Calls Try.prog 45 #[.pointer (some ⟨gg, 0, none⟩)] w fun e w' => e = .returned (.int .i64 G.faults) ∧ w' = w := by
  have hu121 := Try.underlying121
  have c_ : w.cell? ⟨gg, 4, none⟩ = some (.int .i64 G.faults) := (blk_cell hI.blk 4).trans rfl
  clear hI
  go_enter Try.func45, Try.ntmps45
  go_wp2_with fail
  go_ret
  exact ⟨rfl, rfl⟩
theorem gfaultsNil_T (w : World) : Calls Try.prog 45 #[.pointer none] w fun e w' => e = .returned (.int .i64 0) ∧ w' = w := by
  go_enter Try.func45, Try.ntmps45
  go_wp2_with fail
  go_ret
  exact ⟨rfl, rfl⟩
set_option maxHeartbeats 4000000 in
set_option maxRecDepth 100000 in
theorem gis_T (gg gp gc gm gl gs g3 : Nat) (G : GSt) (pk ps pp id : Int) (w0 w : World) (hI : GhostIs w0 w gg gp gc gm gl gs g3 G) :
    Calls Try.prog 94 #[.pointer (some ⟨gg, 0, none⟩), .agg #[.int .i64 pk, .int .i64 ps, .int .i64 pp, .int .i64 id]] w fun e w' => e = .returned (.bool (staleR G pk ps id)) ∧ Below w.heap.size w w' := by
  have hu121 := Try.underlying121
  have hu25 := Try.underlying25
  have hu28 := Try.underlying28
  have hu23 := Try.underlying23
  have JI := Aside0.mk (hI.alloc (.cells #[.int .i64 pk, .int .i64 ps, .int .i64 pp, .int .i64 id] 25)).drew
  have B0 := Aside0.mk (below_drew (below_alloc (Below.refl w.heap.size w) (.cells #[.int .i64 pk, .int .i64 ps, .int .i64 pp, .int .i64 id] 25)))
  have X0 := Aside0.mk (blk_drew (blk_new w (.cells #[.int .i64 pk, .int .i64 ps, .int .i64 pp, .int .i64 id] 25)))
  clear hI
  by_cases h5 : pk = 5
  · subst h5
    obtain ⟨nw, hnw⟩ : ∃ n, (get G.now ps).getD 0 = n := ⟨_, rfl⟩
    have E := Aside0.mk (show staleR G 5 ps id = (nw != id) by rw [← hnw]; rfl)
    have HN := Aside0.mk hnw
    clear hnw
    obtain ⟨v_, hv_⟩ := JI.out.soul
    have HV := Aside0.mk hv_
    clear hv_
    go_enter Try.func94, Try.ntmps94
    go_wp2_with fail
    refine start_ (n := 18) (S := fun w' => w'.cell? ⟨gg, 2, none⟩ = some (.pointer (some ⟨gs, 0, none⟩)) ∧ w'.cell? ⟨w.heap.size, 0, none⟩ = some (.int .i64 5) ∧ w'.cell? ⟨w.heap.size, 1, none⟩ = some (.int .i64 ps) ∧ w'.cell? ⟨w.heap.size, 2, none⟩ = some (.int .i64 pp) ∧ w'.cell? ⟨w.heap.size, 3, none⟩ = some (.int .i64 id)) (ds := []) (lb 18 0) (by kernel_rfl) rfl rfl ⟨(blk_cell JI.out.blk 2).trans rfl, (blk_cell X0.out 0).trans rfl, (blk_cell X0.out 1).trans rfl, (blk_cell X0.out 2).trans rfl, (blk_cell X0.out 3).trans rfl⟩ (fun hHeld => ?_)
    refine pS (v := ?_) (a' := ?_) 0 (some 5) (lb 18 1) rfl rfl (by kernel_rfl) (fun _ _ _ h => h) (by rfl) ?_ ?_ ?_; rotate_left; (intro w'; go_simp; with_reducible rfl); rotate_left; (simp only [Act.put, List.setIfInBounds_toArray, List.set_cons_zero, List.set_cons_succ, i64_w, i32_w]; rfl)
    refine pS (v := ?_) (a' := ?_) 1 (some 6) (lb 18 3) rfl rfl (by kernel_rfl) (fun _ _ _ h => h) (by rfl) ?_ ?_ ?_; rotate_left; (intro w'; go_simp; with_reducible rfl); rotate_left; (simp only [Act.put, List.setIfInBounds_toArray, List.set_cons_zero, List.set_cons_succ, i64_w, i32_w]; rfl)
    refine tS (v := ?_) (a' := ?_) 2 (some 7) (lb 18 7) rfl rfl (by kernel_rfl) (fun _ _ _ h => h) hHeld (by rfl) ?_ ?_ ?_; rotate_left; (rintro w' ⟨s0, s1, s2, s3, s4⟩; go_simp; with_reducible rfl); rotate_left; (simp only [Act.put, List.setIfInBounds_toArray, List.set_cons_zero, List.set_cons_succ, i64_w, i32_w]; rfl)
    refine pS (v := ?_) (a' := ?_) 3 (some 8) (lb 18 15) rfl rfl (by kernel_rfl) (fun _ _ _ h => h) (by rfl) ?_ ?_ ?_; rotate_left; (intro w'; go_simp; with_reducible rfl); rotate_left; (simp only [Act.put, List.setIfInBounds_toArray, List.set_cons_zero, List.set_cons_succ, i64_w, i32_w]; rfl)
    refine pS (v := ?_) (a' := ?_) 4 (some 9) (lb 18 31) rfl rfl (by kernel_rfl) (fun _ _ _ h => h) (by rfl) ?_ ?_ ?_; rotate_left; (intro w'; go_simp; with_reducible rfl); rotate_left; (simp only [Act.put, List.setIfInBounds_toArray, List.set_cons_zero, List.set_cons_succ, i64_w, i32_w]; rfl)
    refine pS (v := ?_) (a' := ?_) 5 (some 10) (lb 18 63) rfl rfl (by kernel_rfl) (fun _ _ _ h => h) (by rfl) ?_ ?_ ?_; rotate_left; (intro w'; go_simp; with_reducible rfl); rotate_left; (simp only [Act.put, List.setIfInBounds_toArray, List.set_cons_zero, List.set_cons_succ, i64_w, i32_w]; rfl)
    refine pS (v := ?_) (a' := ?_) 6 (some 11) (lb 18 127) rfl rfl (by kernel_rfl) (fun _ _ _ h => h) (by rfl) ?_ ?_ ?_; rotate_left; (intro w'; go_simp; with_reducible rfl); rotate_left; (simp only [Act.put, List.setIfInBounds_toArray, List.set_cons_zero, List.set_cons_succ, i64_w, i32_w]; rfl)
    refine pS (v := ?_) (a' := ?_) 7 (some 12) (lb 18 255) rfl rfl (by kernel_rfl) (fun _ _ _ h => h) (by rfl) ?_ ?_ ?_; rotate_left; (intro w'; go_simp; with_reducible rfl); rotate_left; (simp only [Act.put, List.setIfInBounds_toArray, List.set_cons_zero, List.set_cons_succ, i64_w, i32_w]; rfl)
    refine pS (v := ?_) (a' := ?_) 9 (some 14) (lb 18 767) rfl rfl (by kernel_rfl) (fun _ _ _ h => h) (by rfl) ?_ ?_ ?_; rotate_left; (intro w'; go_simp; with_reducible rfl); rotate_left; (simp only [Act.put, List.setIfInBounds_toArray, List.set_cons_zero, List.set_cons_succ, i64_w, i32_w]; rfl)
    refine pS (v := ?_) (a' := ?_) 10 (some 15) (lb 18 1791) rfl rfl (by kernel_rfl) (fun _ _ _ h => h) (by rfl) ?_ ?_ ?_; rotate_left; (intro w'; go_simp; with_reducible rfl); rotate_left; (simp only [Act.put, List.setIfInBounds_toArray, List.set_cons_zero, List.set_cons_succ, i64_w, i32_w]; rfl)
    refine pS (v := ?_) (a' := ?_) 13 (some 18) (lb 18 9983) rfl rfl (by kernel_rfl) (fun _ _ _ h => h) (by rfl) ?_ ?_ ?_; rotate_left; (intro w'; go_simp; with_reducible rfl); rotate_left; (simp only [Act.put, List.setIfInBounds_toArray, List.set_cons_zero, List.set_cons_succ, i64_w, i32_w]; rfl)
    refine tS (v := ?_) (a' := ?_) 8 (some 13) (lb 18 10239) rfl rfl (by kernel_rfl) (fun _ _ _ h => h) hHeld (by rfl) ?_ ?_ ?_; rotate_left; (rintro w' ⟨s0, s1, s2, s3, s4⟩; go_simp; with_reducible rfl); rotate_left; (simp only [Act.put, List.setIfInBounds_toArray, List.set_cons_zero, List.set_cons_succ, i64_w, i32_w]; rfl)
    refine tS (v := ?_) (a' := ?_) 11 (some 16) (lb 18 12287) rfl rfl (by kernel_rfl) (fun _ _ _ h => h) hHeld (by rfl) ?_ ?_ ?_; rotate_left; (rintro w' ⟨s0, s1, s2, s3, s4⟩; go_simp; with_reducible rfl); rotate_left; (simp only [Act.put, List.setIfInBounds_toArray, List.set_cons_zero, List.set_cons_succ, i64_w, i32_w]; rfl)
    refine tS (v := ?_) (a' := ?_) 14 (some 19) (lb 18 28671) rfl rfl (by kernel_rfl) (fun _ _ _ h => h) hHeld (by rfl) ?_ ?_ ?_; rotate_left; (rintro w' ⟨s0, s1, s2, s3, s4⟩; go_simp; with_reducible rfl); rotate_left; (simp only [Act.put, List.setIfInBounds_toArray, List.set_cons_zero, List.set_cons_succ, i64_w, i32_w]; rfl)
    refine one_ (i := 12) (N := some 17) (lb 18 32767) rfl rfl (by kernel_rfl) (by decide) (fun K hK => ?_)
    refine goes_ Try.func41 (by kernel_rfl) rfl #[.pointer (some ⟨gs, 0, none⟩), .int .i64 ps] (by rfl) rfl rfl (by simp only [List.map_toArray, List.map_cons, List.map_nil]; rfl) ?_
    with_reducible refine (soulNow_T gs g3 v_ G.now G.row ps w0 _ HV.out).mono ?_
    rintro e w5 ⟨rfl, hb⟩
    refine ⟨_, rfl, ?_⟩
    rw [HN.out]
    have KI := Aside0.mk (JI.out.below hb)
    have Y0 := Aside0.mk (blk_below X0.out hb)
    have B5 := Aside0.mk (below_step B0.out hb)
    clear hb
    refine hK.out _ _ ⟨(blk_cell KI.out.blk 2).trans rfl, (blk_cell Y0.out 0).trans rfl, (blk_cell Y0.out 1).trans rfl, (blk_cell Y0.out 2).trans rfl, (blk_cell Y0.out 3).trans rfl⟩ (fun hHeld => ?_)
    clear hK K
    refine norm_ (a' := ?_) ?_ ?_
    rotate_left
    · show Act.put _ (some 17) _ = _
      simp only [Act.put, List.setIfInBounds_toArray, List.set_cons_zero, List.set_cons_succ, i64_w, i32_w]
      rfl
    refine pS (v := ?_) (a' := ?_) 15 (some 20) (lb 18 65535) rfl rfl (by kernel_rfl) (fun _ _ _ h => h) (by rfl) ?_ ?_ ?_; rotate_left; (intro w'; go_simp; with_reducible rfl); rotate_left; (simp only [Act.put, List.setIfInBounds_toArray, List.set_cons_zero, List.set_cons_succ, i64_w, i32_w]; rfl)
    refine pS (v := ?_) (a' := ?_) 16 (some 21) (lb 18 131071) rfl rfl (by kernel_rfl) (fun _ _ _ h => h) (by rfl) ?_ ?_ ?_; rotate_left; (intro w'; go_simp; with_reducible rfl); rotate_left; (simp only [Act.put, List.setIfInBounds_toArray, List.set_cons_zero, List.set_cons_succ, i64_w, i32_w]; rfl)
    refine pS (v := ?_) (a' := ?_) 17 (some 4) (lb 18 262143) rfl rfl (by kernel_rfl) (fun _ _ _ h => h) (by rfl) ?_ ?_ ?_; rotate_left; (intro w'; go_simp; with_reducible rfl); rotate_left; (simp only [Act.put, List.setIfInBounds_toArray, List.set_cons_zero, List.set_cons_succ, i64_w, i32_w]; rfl)
    refine done_ (by kernel_rfl) ?_
    go_wp2_with fail
    go_ret
    rw [E.out]
    exact ⟨rfl, B5.out⟩
  · have t1 : (pk == 5) = false := beq_eq_false_iff_ne.mpr h5
    have E := Aside0.mk (show staleR G pk ps id = false by unfold staleR; rw [t1]; rfl)
    clear h5
    go_enter Try.func94, Try.ntmps94
    go_wp2_with fail
    refine start_ (n := 18) (S := fun w' => w'.cell? ⟨w.heap.size, 0, none⟩ = some (.int .i64 pk) ∧ w'.cell? ⟨w.heap.size, 1, none⟩ = some (.int .i64 ps) ∧ w'.cell? ⟨w.heap.size, 2, none⟩ = some (.int .i64 pp) ∧ w'.cell? ⟨w.heap.size, 3, none⟩ = some (.int .i64 id)) (ds := []) (lb 18 0) (by kernel_rfl) rfl rfl ⟨(blk_cell X0.out 0).trans rfl, (blk_cell X0.out 1).trans rfl, (blk_cell X0.out 2).trans rfl, (blk_cell X0.out 3).trans rfl⟩ (fun hHeld => ?_)
    refine pS (v := ?_) (a' := ?_) 0 (some 5) (lb 18 1) rfl rfl (by kernel_rfl) (fun _ _ _ h => h) (by rfl) ?_ ?_ ?_; rotate_left; (intro w'; go_simp; with_reducible rfl); rotate_left; (simp only [Act.put, List.setIfInBounds_toArray, List.set_cons_zero, List.set_cons_succ, i64_w, i32_w]; rfl)
    refine pS (v := ?_) (a' := ?_) 1 (some 6) (lb 18 3) rfl rfl (by kernel_rfl) (fun _ _ _ h => h) (by rfl) ?_ ?_ ?_; rotate_left; (intro w'; go_simp; with_reducible rfl); rotate_left; (simp only [Act.put, List.setIfInBounds_toArray, List.set_cons_zero, List.set_cons_succ, i64_w, i32_w]; rfl)
    refine tS (v := ?_) (a' := ?_) 2 (some 7) (lb 18 7) rfl rfl (by kernel_rfl) (fun _ _ _ h => h) hHeld (by rfl) ?_ ?_ ?_; rotate_left; (rintro w' ⟨s0, s1, s2, s3⟩; go_simp; with_reducible rfl); rotate_left; (simp only [Act.put, List.setIfInBounds_toArray, List.set_cons_zero, List.set_cons_succ, i64_w, i32_w]; rfl)
    refine pS (v := ?_) (a' := ?_) 3 (some 8) (lb 18 15) rfl rfl (by kernel_rfl) (fun _ _ _ h => h) (by rfl) ?_ ?_ ?_; rotate_left; (intro w'; go_simp; with_reducible rfl); rotate_left; (simp only [Act.put, List.setIfInBounds_toArray, List.set_cons_zero, List.set_cons_succ, i64_w, i32_w]; rfl)
    refine pS (v := ?_) (a' := ?_) 4 (some 9) (lb 18 31) rfl rfl (by kernel_rfl) (fun _ _ _ h => h) (by rfl) ?_ ?_ ?_; rotate_left; (intro w'; go_simp; with_reducible rfl); rotate_left; (simp only [Act.put, List.setIfInBounds_toArray, List.set_cons_zero, List.set_cons_succ, i64_w, i32_w]; rfl)
    refine pO (a' := ?_) 5 (some 10) (lb 18 63) rfl rfl (by kernel_rfl) (fun _ _ _ h => h) (by rfl) ?_ ?_; rotate_left; (simp only [Act.put, List.setIfInBounds_toArray, List.set_cons_zero, List.set_cons_succ, i64_w, i32_w]; rfl)
    refine pO (a' := ?_) 6 (some 11) (lb 18 127) rfl rfl (by kernel_rfl) (fun _ _ _ h => h) (by rfl) ?_ ?_; rotate_left; (simp only [Act.put, List.setIfInBounds_toArray, List.set_cons_zero, List.set_cons_succ, i64_w, i32_w]; rfl)
    refine pO (a' := ?_) 7 (some 12) (lb 18 255) rfl rfl (by kernel_rfl) (fun _ _ _ h => h) (by rfl) ?_ ?_; rotate_left; (simp only [Act.put, List.setIfInBounds_toArray, List.set_cons_zero, List.set_cons_succ, i64_w, i32_w]; rfl)
    refine pO (a' := ?_) 8 (some 13) (lb 18 511) rfl rfl (by kernel_rfl) (fun _ _ _ h => h) (by rfl) ?_ ?_; rotate_left; (simp only [Act.put, List.setIfInBounds_toArray, List.set_cons_zero, List.set_cons_succ, i64_w, i32_w]; rfl)
    refine pO (a' := ?_) 9 (some 14) (lb 18 1023) rfl rfl (by kernel_rfl) (fun _ _ _ h => h) (by rfl) ?_ ?_; rotate_left; (simp only [Act.put, List.setIfInBounds_toArray, List.set_cons_zero, List.set_cons_succ, i64_w, i32_w]; rfl)
    refine pO (a' := ?_) 10 (some 15) (lb 18 2047) rfl rfl (by kernel_rfl) (fun _ _ _ h => h) (by rfl) ?_ ?_; rotate_left; (simp only [Act.put, List.setIfInBounds_toArray, List.set_cons_zero, List.set_cons_succ, i64_w, i32_w]; rfl)
    refine pO (a' := ?_) 11 (some 16) (lb 18 4095) rfl rfl (by kernel_rfl) (fun _ _ _ h => h) (by rfl) ?_ ?_; rotate_left; (simp only [Act.put, List.setIfInBounds_toArray, List.set_cons_zero, List.set_cons_succ, i64_w, i32_w]; rfl)
    refine pO (a' := ?_) 12 (some 17) (lb 18 8191) rfl rfl (by kernel_rfl) (fun _ _ _ h => h) (by rfl) ?_ ?_; rotate_left; (simp only [Act.put, List.setIfInBounds_toArray, List.set_cons_zero, List.set_cons_succ, i64_w, i32_w]; rfl)
    refine pO (a' := ?_) 13 (some 18) (lb 18 16383) rfl rfl (by kernel_rfl) (fun _ _ _ h => h) (by rfl) ?_ ?_; rotate_left; (simp only [Act.put, List.setIfInBounds_toArray, List.set_cons_zero, List.set_cons_succ, i64_w, i32_w]; rfl)
    refine pO (a' := ?_) 14 (some 19) (lb 18 32767) rfl rfl (by kernel_rfl) (fun _ _ _ h => h) (by rfl) ?_ ?_; rotate_left; (simp only [Act.put, List.setIfInBounds_toArray, List.set_cons_zero, List.set_cons_succ, i64_w, i32_w]; rfl)
    refine pO (a' := ?_) 15 (some 20) (lb 18 65535) rfl rfl (by kernel_rfl) (fun _ _ _ h => h) (by rfl) ?_ ?_; rotate_left; (simp only [Act.put, List.setIfInBounds_toArray, List.set_cons_zero, List.set_cons_succ, i64_w, i32_w]; rfl)
    refine pS (v := ?_) (a' := ?_) 16 (some 21) (lb 18 131071) rfl rfl (by kernel_rfl) (fun _ _ _ h => h) (by rfl) ?_ ?_ ?_; rotate_left; (intro w'; go_simp; with_reducible rfl); rotate_left; (simp only [Act.put, List.setIfInBounds_toArray, List.set_cons_zero, List.set_cons_succ, i64_w, i32_w]; rfl)
    refine pS (v := ?_) (a' := ?_) 17 (some 4) (lb 18 262143) rfl rfl (by kernel_rfl) (fun _ _ _ h => h) (by rfl) ?_ ?_ ?_; rotate_left; (intro w'; go_simp; with_reducible rfl); rotate_left; (simp only [Act.put, List.setIfInBounds_toArray, List.set_cons_zero, List.set_cons_succ, i64_w, i32_w]; rfl)
    refine done_ (by kernel_rfl) ?_
    go_wp2_with fail
    go_ret
    rw [E.out]
    exact ⟨rfl, B0.out⟩
def leadG (G : GSt) (k : K3) (id y : Int) (b : Bool) : GSt := { G with leads := put G.leads k y, faults := if b || staleR G k.1 k.2.1 id then wrap64 (G.faults + 1) else G.faults }
set_option maxHeartbeats 4000000 in
set_option maxRecDepth 100000 in
theorem glead_U (gg gp gc gm gl gs g3 : Nat) (G : GSt) (pk ps pp id x y : Int) (st sl : Bool) (w0 w : World) (hI : GhostIs w0 w gg gp gc gm gl gs g3 G) (hB : Below w0.heap.size w0 w) :
    Calls Try.prog 95 #[.pointer (some ⟨gg, 0, none⟩), .agg #[.int .i64 pk, .int .i64 ps, .int .i64 pp, .int .i64 id], .agg #[.int .u64 x, .int .i64 y, .bool st], .bool sl] w (GPostT w0 w gg gp gc gm gl gs g3 (leadG G (pk, ps, pp) id y (sl || st)) (.tuple #[])) := by
  have hu121 := Try.underlying121
  have hu25 := Try.underlying25
  have hu28 := Try.underlying28
  have hu23 := Try.underlying23
  have JI := Aside0.mk ((hI.alloc (.cells #[.int .i64 pk, .int .i64 ps, .int .i64 pp, .int .i64 id] 25)).alloc (.cells #[.int .u64 x, .int .i64 y, .bool st] 28)).drew
  have JB := Aside0.mk (below_drew (below_alloc (below_alloc hB (.cells #[.int .i64 pk, .int .i64 ps, .int .i64 pp, .int .i64 id] 25)) (.cells #[.int .u64 x, .int .i64 y, .bool st] 28)))
  have JF := Aside0.mk (((Fr.refl (GhostT gg gc gm gl) w).alloc (.cells #[.int .i64 pk, .int .i64 ps, .int .i64 pp, .int .i64 id] 25)).alloc (.cells #[.int .u64 x, .int .i64 y, .bool st] 28)).drew
  have X0 := Aside0.mk (blk_drew (blk_alloc (blk_new w (.cells #[.int .i64 pk, .int .i64 ps, .int .i64 pp, .int .i64 id] 25)) (.cells #[.int .u64 x, .int .i64 y, .bool st] 28)))
  have X1 := Aside0.mk (blk_drew (blk_new2 w (.cells #[.int .i64 pk, .int .i64 ps, .int .i64 pp, .int .i64 id] 25) (.cells #[.int .u64 x, .int .i64 y, .bool st] 28)))
  clear hI hB
  obtain ⟨w2, hu, hm2, o2, e2⟩ := M.upd (P := Try.prog) keyP Try.underlying119 JI.out.leads (pk, ps, pp) y
  have HM2 := Aside0.mk hm2
  have HE2 := Aside0.mk e2
  clear hm2 e2
  replace hu : (Instr.mapUpdate 119 (.map (some gl)) (.agg #[.int .i64 pk, .int .i64 ps, .int .i64 pp]) (.int .i64 y)).run Try.prog _ = .ok () w2 := hu
  go_enter Try.func95, Try.ntmps95
  go_wp2_with fail
  refine start_ (n := 9) (S := fun w' => w'.cell? ⟨gg, 1, none⟩ = some (.map (some gl)) ∧ w'.cell? ⟨w.heap.size, 0, none⟩ = some (.int .i64 pk) ∧ w'.cell? ⟨w.heap.size, 1, none⟩ = some (.int .i64 ps) ∧ w'.cell? ⟨w.heap.size, 2, none⟩ = some (.int .i64 pp) ∧ w'.cell? ⟨w.heap.size + 1, 1, none⟩ = some (.int .i64 y)) (ds := [8]) (lb 9 0) (by kernel_rfl) rfl rfl ⟨(blk_cell JI.out.blk 1).trans rfl, (blk_cell X0.out 0).trans rfl, (blk_cell X0.out 1).trans rfl, (blk_cell X0.out 2).trans rfl, (blk_cell X1.out 1).trans rfl⟩ (fun hHeld => ?_)
  refine pS (v := ?_) (a' := ?_) 0 (some 8) (lb 9 1) rfl rfl (by kernel_rfl) (fun _ _ _ h => h) (by rfl) ?_ ?_ ?_; rotate_left; (intro w'; go_simp; with_reducible rfl); rotate_left; (simp only [Act.put, List.setIfInBounds_toArray, List.set_cons_zero, List.set_cons_succ, i64_w, i32_w]; rfl)
  refine pS (v := ?_) (a' := ?_) 1 (some 9) (lb 9 3) rfl rfl (by kernel_rfl) (fun _ _ _ h => h) (by rfl) ?_ ?_ ?_; rotate_left; (intro w'; go_simp; with_reducible rfl); rotate_left; (simp only [Act.put, List.setIfInBounds_toArray, List.set_cons_zero, List.set_cons_succ, i64_w, i32_w]; rfl)
  refine pS (v := ?_) (a' := ?_) 2 (some 10) (lb 9 7) rfl rfl (by kernel_rfl) (fun _ _ _ h => h) (by rfl) ?_ ?_ ?_; rotate_left; (intro w'; go_simp; with_reducible rfl); rotate_left; (simp only [Act.put, List.setIfInBounds_toArray, List.set_cons_zero, List.set_cons_succ, i64_w, i32_w]; rfl)
  refine pS (v := ?_) (a' := ?_) 4 (some 12) (lb 9 23) rfl rfl (by kernel_rfl) (fun _ _ _ h => h) (by rfl) ?_ ?_ ?_; rotate_left; (intro w'; go_simp; with_reducible rfl); rotate_left; (simp only [Act.put, List.setIfInBounds_toArray, List.set_cons_zero, List.set_cons_succ, i64_w, i32_w]; rfl)
  refine pS (v := ?_) (a' := ?_) 6 (some 14) (lb 9 87) rfl rfl (by kernel_rfl) (fun _ _ _ h => h) (by rfl) ?_ ?_ ?_; rotate_left; (intro w'; go_simp; with_reducible rfl); rotate_left; (simp only [Act.put, List.setIfInBounds_toArray, List.set_cons_zero, List.set_cons_succ, i64_w, i32_w]; rfl)
  refine tS (v := ?_) (a' := ?_) 3 (some 11) (lb 9 95) rfl rfl (by kernel_rfl) (fun _ _ _ h => h) hHeld (by rfl) ?_ ?_ ?_; rotate_left; (rintro w' ⟨s0, s1, s2, s3, s4⟩; go_simp; with_reducible rfl); rotate_left; (simp only [Act.put, List.setIfInBounds_toArray, List.set_cons_zero, List.set_cons_succ, i64_w, i32_w]; rfl)
  refine tS (v := ?_) (a' := ?_) 5 (some 13) (lb 9 127) rfl rfl (by kernel_rfl) (fun _ _ _ h => h) hHeld (by rfl) ?_ ?_ ?_; rotate_left; (rintro w' ⟨s0, s1, s2, s3, s4⟩; go_simp; with_reducible rfl); rotate_left; (simp only [Act.put, List.setIfInBounds_toArray, List.set_cons_zero, List.set_cons_succ, i64_w, i32_w]; rfl)
  refine tS (v := ?_) (a' := ?_) 7 (some 15) (lb 9 255) rfl rfl (by kernel_rfl) (fun _ _ _ h => h) hHeld (by rfl) ?_ ?_ ?_; rotate_left; (rintro w' ⟨s0, s1, s2, s3, s4⟩; go_simp; with_reducible rfl); rotate_left; (simp only [Act.put, List.setIfInBounds_toArray, List.set_cons_zero, List.set_cons_succ, i64_w, i32_w]; rfl)
  refine last_ (i := 8) (N := none) (lb 9 511) rfl rfl (by kernel_rfl) (by decide) (fun K hK => ?_)
  refine skip_ (w1 := ?_) (by rfl) rfl ?_ ?_
  rotate_left
  · go_simp
    rfl
  refine hK.out _ _ ?_
  clear hK K
  refine done_ (by kernel_rfl) ?_
  have e2 := HE2.out
  subst e2
  have KI := Aside0.mk (JI.out.lead HM2.out)
  have KB := Aside0.mk (setB_below JB.out JI.out.bl o2)
  have KF := Aside0.mk (JF.out.setBk (fun _ => .inr (.inl rfl)) o2)
  have Y0 := Aside0.mk ((setB_far _ gl o2 _ (mapIs_ne JI.out.leads X0.out)).trans X0.out)
  have Y1 := Aside0.mk ((setB_far _ gl o2 _ (mapIs_ne JI.out.leads X1.out)).trans X1.out)
  clear JI JB JF X0 X1 HM2 HE2 hu
  generalize setB _ gl o2 = w2 at *
  cases sl with
  | true =>
    have E := Aside0.mk (show leadG G (pk, ps, pp) id y true = { { G with leads := put G.leads (pk, ps, pp) y } with faults := wrap64 (G.faults + 1) } from rfl)
    have c4 : w2.cell? ⟨gg, 4, none⟩ = some (.int .i64 G.faults) := (blk_cell KI.out.blk 4).trans rfl
    have f4 := blk_frozen KI.out.blk 4
    go_wp2_with fail
    refine bodyPost_end (results_none rfl _ _ _) rfl ?_
    rw [E.out]
    exact ⟨rfl, KI.out.count 4 (.int .i64 (wrap64 (G.faults + 1))) _ rfl rfl rfl rfl rfl, KB.out.setCell (p := ⟨gg, 4, none⟩) KI.out.b _, KF.out.set (p := ⟨gg, 4, none⟩) (fun _ => .inl rfl) _⟩
  | false =>
  cases st with
  | true =>
    have E := Aside0.mk (show leadG G (pk, ps, pp) id y true = { { G with leads := put G.leads (pk, ps, pp) y } with faults := wrap64 (G.faults + 1) } from rfl)
    have b2 : w2.cell? ⟨w.heap.size + 1, 2, none⟩ = some (.bool true) := (blk_cell Y1.out 2).trans rfl
    have c4 : w2.cell? ⟨gg, 4, none⟩ = some (.int .i64 G.faults) := (blk_cell KI.out.blk 4).trans rfl
    have f4 := blk_frozen KI.out.blk 4
    go_wp2_with fail
    refine bodyPost_end (results_none rfl _ _ _) rfl ?_
    rw [E.out]
    exact ⟨rfl, KI.out.count 4 (.int .i64 (wrap64 (G.faults + 1))) _ rfl rfl rfl rfl rfl, KB.out.setCell (p := ⟨gg, 4, none⟩) KI.out.b _, KF.out.set (p := ⟨gg, 4, none⟩) (fun _ => .inl rfl) _⟩
  | false =>
    have b2 : w2.cell? ⟨w.heap.size + 1, 2, none⟩ = some (.bool false) := (blk_cell Y1.out 2).trans rfl
    have a0 : w2.cell? ⟨w.heap.size, 0, none⟩ = some (.int .i64 pk) := (blk_cell Y0.out 0).trans rfl
    have a1 : w2.cell? ⟨w.heap.size, 1, none⟩ = some (.int .i64 ps) := (blk_cell Y0.out 1).trans rfl
    have a2 : w2.cell? ⟨w.heap.size, 2, none⟩ = some (.int .i64 pp) := (blk_cell Y0.out 2).trans rfl
    have a3 : w2.cell? ⟨w.heap.size, 3, none⟩ = some (.int .i64 id) := (blk_cell Y0.out 3).trans rfl
    go_wp2_with fail
    refine (gis_T gg gp gc gm gl gs g3 _ pk ps pp id w0 w2 KI.out).mono ?_
    rintro e w3 ⟨rfl, hb⟩
    have LI := Aside0.mk (KI.out.below hb)
    have LB := Aside0.mk (below_step KB.out hb)
    have LF := Aside0.mk (KF.out.below hb)
    clear hb
    cases hst : staleR G pk ps id with
    | false =>
      rw [show staleR { G with leads := put G.leads (pk, ps, pp) y } pk ps id = false from hst]
      have E := Aside0.mk (show leadG G (pk, ps, pp) id y (false || false) = { G with leads := put G.leads (pk, ps, pp) y } by unfold leadG; rw [show staleR G (pk, ps, pp).1 (pk, ps, pp).2.1 id = false from hst]; rfl)
      clear hst
      go_wp2_with fail
      refine bodyPost_end (results_none rfl _ _ _) rfl ?_
      rw [E.out]
      exact ⟨rfl, LI.out, LB.out, LF.out⟩
    | true =>
      rw [show staleR { G with leads := put G.leads (pk, ps, pp) y } pk ps id = true from hst]
      have E := Aside0.mk (show leadG G (pk, ps, pp) id y (false || false) = { { G with leads := put G.leads (pk, ps, pp) y } with faults := wrap64 (G.faults + 1) } by unfold leadG; rw [show staleR G (pk, ps, pp).1 (pk, ps, pp).2.1 id = true from hst]; rfl)
      clear hst
      have c4 : w3.cell? ⟨gg, 4, none⟩ = some (.int .i64 G.faults) := (blk_cell LI.out.blk 4).trans rfl
      have f4 := blk_frozen LI.out.blk 4
      go_wp2_with fail
      refine bodyPost_end (results_none rfl _ _ _) rfl ?_
      rw [E.out]
      exact ⟨rfl, LI.out.count 4 (.int .i64 (wrap64 (G.faults + 1))) _ rfl rfl rfl rfl rfl, LB.out.setCell (p := ⟨gg, 4, none⟩) LI.out.b _, LF.out.set (p := ⟨gg, 4, none⟩) (fun _ => .inl rfl) _⟩
def gstoreG (G : GSt) (k : K3) (id x y : Int) (st : Bool) : GSt := leadG { G with p := cstoreC G.p k x } k id y st
set_option maxHeartbeats 4000000 in
set_option maxRecDepth 100000 in
theorem gstore_U (gg gp gc gm gl gs g3 : Nat) (G : GSt) (pk ps pp id x y : Int) (st : Bool) (w0 w : World) (hI : GhostIs w0 w gg gp gc gm gl gs g3 G) (hB : Below w0.heap.size w0 w) :
    Calls Try.prog 44 #[.pointer (some ⟨gg, 0, none⟩), .agg #[.int .i64 pk, .int .i64 ps, .int .i64 pp, .int .i64 id], .agg #[.int .u64 x, .int .i64 y, .bool st]] w (GPostT w0 w gg gp gc gm gl gs g3 (gstoreG G (pk, ps, pp) id x y st) (.tuple #[])) := by
  have hu121 := Try.underlying121
  have hu25 := Try.underlying25
  have hu28 := Try.underlying28
  have hu23 := Try.underlying23
  have JI := Aside0.mk ((hI.alloc (.cells #[.int .i64 pk, .int .i64 ps, .int .i64 pp, .int .i64 id] 25)).alloc (.cells #[.int .u64 x, .int .i64 y, .bool st] 28)).drew
  have JB := Aside0.mk (below_drew (below_alloc (below_alloc hB (.cells #[.int .i64 pk, .int .i64 ps, .int .i64 pp, .int .i64 id] 25)) (.cells #[.int .u64 x, .int .i64 y, .bool st] 28)))
  have JF := Aside0.mk (((Fr.refl (GhostT gg gc gm gl) w).alloc (.cells #[.int .i64 pk, .int .i64 ps, .int .i64 pp, .int .i64 id] 25)).alloc (.cells #[.int .u64 x, .int .i64 y, .bool st] 28)).drew
  have X0 := Aside0.mk (blk_drew (blk_alloc (blk_new w (.cells #[.int .i64 pk, .int .i64 ps, .int .i64 pp, .int .i64 id] 25)) (.cells #[.int .u64 x, .int .i64 y, .bool st] 28)))
  have X1 := Aside0.mk (blk_drew (blk_new2 w (.cells #[.int .i64 pk, .int .i64 ps, .int .i64 pp, .int .i64 id] 25) (.cells #[.int .u64 x, .int .i64 y, .bool st] 28)))
  clear hI hB
  go_enter Try.func44, Try.ntmps44
  go_wp2_with fail
  refine start_ (n := 7) (S := fun w' => w'.cell? ⟨gg, 0, none⟩ = some (.pointer (some ⟨gp, 0, none⟩)) ∧ w'.cell? ⟨w.heap.size, 0, none⟩ = some (.int .i64 pk) ∧ w'.cell? ⟨w.heap.size, 1, none⟩ = some (.int .i64 ps) ∧ w'.cell? ⟨w.heap.size, 2, none⟩ = some (.int .i64 pp) ∧ w'.cell? ⟨w.heap.size, 3, none⟩ = some (.int .i64 id) ∧ w'.cell? ⟨w.heap.size + 1, 0, none⟩ = some (.int .u64 x) ∧ w'.cell? ⟨w.heap.size + 1, 1, none⟩ = some (.int .i64 y) ∧ w'.cell? ⟨w.heap.size + 1, 2, none⟩ = some (.bool st)) (ds := []) (lb 7 0) (by kernel_rfl) rfl rfl ⟨(blk_cell JI.out.blk 0).trans rfl, (blk_cell X0.out 0).trans rfl, (blk_cell X0.out 1).trans rfl, (blk_cell X0.out 2).trans rfl, (blk_cell X0.out 3).trans rfl, (blk_cell X1.out 0).trans rfl, (blk_cell X1.out 1).trans rfl, (blk_cell X1.out 2).trans rfl⟩ (fun hHeld => ?_)
  refine pS (v := ?_) (a' := ?_) 0 (some 8) (lb 7 1) rfl rfl (by kernel_rfl) (fun _ _ _ h => h) (by rfl) ?_ ?_ ?_; rotate_left; (intro w'; go_simp; with_reducible rfl); rotate_left; (simp only [Act.put, List.setIfInBounds_toArray, List.set_cons_zero, List.set_cons_succ, i64_w, i32_w]; rfl)
  refine pS (v := ?_) (a' := ?_) 1 (some 9) (lb 7 3) rfl rfl (by kernel_rfl) (fun _ _ _ h => h) (by rfl) ?_ ?_ ?_; rotate_left; (intro w'; go_simp; with_reducible rfl); rotate_left; (simp only [Act.put, List.setIfInBounds_toArray, List.set_cons_zero, List.set_cons_succ, i64_w, i32_w]; rfl)
  refine pS (v := ?_) (a' := ?_) 2 (some 10) (lb 7 7) rfl rfl (by kernel_rfl) (fun _ _ _ h => h) (by rfl) ?_ ?_ ?_; rotate_left; (intro w'; go_simp; with_reducible rfl); rotate_left; (simp only [Act.put, List.setIfInBounds_toArray, List.set_cons_zero, List.set_cons_succ, i64_w, i32_w]; rfl)
  refine tS (v := ?_) (a' := ?_) 3 (some 11) (lb 7 15) rfl rfl (by kernel_rfl) (fun _ _ _ h => h) hHeld (by rfl) ?_ ?_ ?_; rotate_left; (rintro w' ⟨s0, s1, s2, s3, s4, s5, s6, s7⟩; go_simp; with_reducible rfl); rotate_left; (simp only [Act.put, List.setIfInBounds_toArray, List.set_cons_zero, List.set_cons_succ, i64_w, i32_w]; rfl)
  refine tS (v := ?_) (a' := ?_) 4 (some 12) (lb 7 31) rfl rfl (by kernel_rfl) (fun _ _ _ h => h) hHeld (by rfl) ?_ ?_ ?_; rotate_left; (rintro w' ⟨s0, s1, s2, s3, s4, s5, s6, s7⟩; go_simp; with_reducible rfl); rotate_left; (simp only [Act.put, List.setIfInBounds_toArray, List.set_cons_zero, List.set_cons_succ, i64_w, i32_w]; rfl)
  refine tS (v := ?_) (a' := ?_) 5 (some 13) (lb 7 63) rfl rfl (by kernel_rfl) (fun _ _ _ h => h) hHeld (by rfl) ?_ ?_ ?_; rotate_left; (rintro w' ⟨s0, s1, s2, s3, s4, s5, s6, s7⟩; go_simp; with_reducible rfl); rotate_left; (simp only [Act.put, List.setIfInBounds_toArray, List.set_cons_zero, List.set_cons_succ, i64_w, i32_w]; rfl)
  refine one_ (i := 6) (N := some 14) (lb 7 127) rfl rfl (by kernel_rfl) (by decide) (fun K hK => ?_)
  refine goes_ Try.func32 (by kernel_rfl) rfl #[.pointer (some ⟨gp, 0, none⟩), Value.agg #[.int .i64 pk, .int .i64 ps, .int .i64 pp, .int .i64 id], Value.agg #[.int .u64 x, .int .i64 y, .bool st]] (by rfl) rfl rfl (by simp only [List.map_toArray, List.map_cons, List.map_nil]; rfl) ?_
  with_reducible refine (pstore_T gp gc gm G.p pk ps pp id x y st w0 _ JI.out.plain JB.out).mono ?_
  rintro e w5 ⟨rfl, h1_, h2_, h3_⟩
  refine ⟨_, rfl, ?_⟩
  have KI := Aside0.mk (JI.out.turnP h1_ h3_)
  have KB := Aside0.mk h2_
  have KF := Aside0.mk (JF.out.trans (frPT h3_))
  have Y0 := Aside0.mk (JI.out.plain.cells.stays h3_ X0.out (by decide))
  have Y1 := Aside0.mk (JI.out.plain.cells.stays h3_ X1.out (by decide))
  clear h1_ h2_ h3_
  refine hK.out _ _ ⟨(blk_cell KI.out.blk 0).trans rfl, (blk_cell Y0.out 0).trans rfl, (blk_cell Y0.out 1).trans rfl, (blk_cell Y0.out 2).trans rfl, (blk_cell Y0.out 3).trans rfl, (blk_cell Y1.out 0).trans rfl, (blk_cell Y1.out 1).trans rfl, (blk_cell Y1.out 2).trans rfl⟩ (fun hHeld => ?_)
  clear hK K
  refine norm_ (a' := ?_) ?_ ?_
  rotate_left
  · show Act.put _ (some 14) _ = _
    simp only [Act.put, List.setIfInBounds_toArray, List.set_cons_zero, List.set_cons_succ, i64_w, i32_w]
    rfl
  refine done_ (by kernel_rfl) ?_
  have a0 : w5.cell? ⟨w.heap.size, 0, none⟩ = some (.int .i64 pk) := (blk_cell Y0.out 0).trans rfl
  have a1 : w5.cell? ⟨w.heap.size, 1, none⟩ = some (.int .i64 ps) := (blk_cell Y0.out 1).trans rfl
  have a2 : w5.cell? ⟨w.heap.size, 2, none⟩ = some (.int .i64 pp) := (blk_cell Y0.out 2).trans rfl
  have a3 : w5.cell? ⟨w.heap.size, 3, none⟩ = some (.int .i64 id) := (blk_cell Y0.out 3).trans rfl
  have b0_0 : w5.cell? ⟨w.heap.size + 1, 0, none⟩ = some (.int .u64 x) := (blk_cell Y1.out 0).trans rfl
  have b0_1 : w5.cell? ⟨w.heap.size + 1, 1, none⟩ = some (.int .i64 y) := (blk_cell Y1.out 1).trans rfl
  have b0_2 : w5.cell? ⟨w.heap.size + 1, 2, none⟩ = some (.bool st) := (blk_cell Y1.out 2).trans rfl
  go_wp2_with fail
  refine (glead_U gg gp gc gm gl gs g3 _ pk ps pp id x y st false w0 w5 KI.out KB.out).mono ?_
  rintro e w6 ⟨rfl, h1_, h2_, h3_⟩
  have R1 := Aside0.mk h1_
  have R2 := Aside0.mk h2_
  have R3 := Aside0.mk (KF.out.trans h3_)
  clear h1_ h2_ h3_
  go_wp2_with fail
  refine bodyPost_end (results_none rfl _ _ _) rfl ?_
  exact ⟨rfl, R1.out, R2.out, R3.out⟩
def gswapG (G : GSt) (k : K3) (id ox x y : Int) (b : Bool) : GSt := if cswapR G.p k ox then leadG { G with p := cswapC G.p k ox x } k id y b else { G with p := cswapC G.p k ox x }
set_option maxHeartbeats 4000000 in
set_option maxRecDepth 100000 in
theorem gswap_U (gg gp gc gm gl gs g3 : Nat) (G : GSt) (pk ps pp id ox oy x y : Int) (ost st : Bool) (w0 w : World) (hI : GhostIs w0 w gg gp gc gm gl gs g3 G) (hB : Below w0.heap.size w0 w) :
    Calls Try.prog 46 #[.pointer (some ⟨gg, 0, none⟩), .agg #[.int .i64 pk, .int .i64 ps, .int .i64 pp, .int .i64 id], .agg #[.int .u64 ox, .int .i64 oy, .bool ost], .agg #[.int .u64 x, .int .i64 y, .bool st]] w (GPostT w0 w gg gp gc gm gl gs g3 (gswapG G (pk, ps, pp) id ox x y (ost || st)) (.bool (cswapR G.p (pk, ps, pp) ox))) := by
  have hu121 := Try.underlying121
  have hu25 := Try.underlying25
  have hu28 := Try.underlying28
  have hu23 := Try.underlying23
  have JI := Aside0.mk (((hI.alloc (.cells #[.int .i64 pk, .int .i64 ps, .int .i64 pp, .int .i64 id] 25)).alloc (.cells #[.int .u64 ox, .int .i64 oy, .bool ost] 28)).alloc (.cells #[.int .u64 x, .int .i64 y, .bool st] 28)).drew
  have JB := Aside0.mk (below_drew (below_alloc (below_alloc (below_alloc hB (.cells #[.int .i64 pk, .int .i64 ps, .int .i64 pp, .int .i64 id] 25)) (.cells #[.int .u64 ox, .int .i64 oy, .bool ost] 28)) (.cells #[.int .u64 x, .int .i64 y, .bool st] 28)))
  have JF := Aside0.mk ((((Fr.refl (GhostT gg gc gm gl) w).alloc (.cells #[.int .i64 pk, .int .i64 ps, .int .i64 pp, .int .i64 id] 25)).alloc (.cells #[.int .u64 ox, .int .i64 oy, .bool ost] 28)).alloc (.cells #[.int .u64 x, .int .i64 y, .bool st] 28)).drew
  have X0 := Aside0.mk (blk_drew (blk_alloc (blk_alloc (blk_new w (.cells #[.int .i64 pk, .int .i64 ps, .int .i64 pp, .int .i64 id] 25)) (.cells #[.int .u64 ox, .int .i64 oy, .bool ost] 28)) (.cells #[.int .u64 x, .int .i64 y, .bool st] 28)))
  have X1 := Aside0.mk (blk_drew (blk_alloc (blk_new2 w (.cells #[.int .i64 pk, .int .i64 ps, .int .i64 pp, .int .i64 id] 25) (.cells #[.int .u64 ox, .int .i64 oy, .bool ost] 28)) (.cells #[.int .u64 x, .int .i64 y, .bool st] 28)))
  have X2 := Aside0.mk (blk_drew (blk_new3 w (.cells #[.int .i64 pk, .int .i64 ps, .int .i64 pp, .int .i64 id] 25) (.cells #[.int .u64 ox, .int .i64 oy, .bool ost] 28) (.cells #[.int .u64 x, .int .i64 y, .bool st] 28)))
  clear hI hB
  obtain ⟨bb, hbb⟩ : ∃ b, cswapR G.p (pk, ps, pp) ox = b := ⟨_, rfl⟩
  have HBB := Aside0.mk hbb
  rw [hbb]
  clear hbb
  go_enter Try.func46, Try.ntmps46
  go_wp2_with fail
  refine start_ (n := 7) (S := fun w' => w'.cell? ⟨w.heap.size, 0, none⟩ = some (.int .i64 pk) ∧ w'.cell? ⟨w.heap.size, 1, none⟩ = some (.int .i64 ps) ∧ w'.cell? ⟨w.heap.size, 2, none⟩ = some (.int .i64 pp) ∧ w'.cell? ⟨w.heap.size, 3, none⟩ = some (.int .i64 id) ∧ w'.cell? ⟨w.heap.size + 1, 0, none⟩ = some (.int .u64 ox) ∧ w'.cell? ⟨w.heap.size + 1, 1, none⟩ = some (.int .i64 oy) ∧ w'.cell? ⟨w.heap.size + 1, 2, none⟩ = some (.bool ost) ∧ w'.cell? ⟨w.heap.size + 1 + 1, 0, none⟩ = some (.int .u64 x) ∧ w'.cell? ⟨w.heap.size + 1 + 1, 1, none⟩ = some (.int .i64 y) ∧ w'.cell? ⟨w.heap.size + 1 + 1, 2, none⟩ = some (.bool st)) (ds := []) (lb 7 0) (by kernel_rfl) rfl rfl ⟨(blk_cell X0.out 0).trans rfl, (blk_cell X0.out 1).trans rfl, (blk_cell X0.out 2).trans rfl, (blk_cell X0.out 3).trans rfl, (blk_cell X1.out 0).trans rfl, (blk_cell X1.out 1).trans rfl, (blk_cell X1.out 2).trans rfl, (blk_cell X2.out 0).trans rfl, (blk_cell X2.out 1).trans rfl, (blk_cell X2.out 2).trans rfl⟩ (fun hHeld => ?_)
  refine pS (v := ?_) (a' := ?_) 0 (some 9) (lb 7 1) rfl rfl (by kernel_rfl) (fun _ _ _ h => h) (by rfl) ?_ ?_ ?_; rotate_left; (intro w'; go_simp; with_reducible rfl); rotate_left; (simp only [Act.put, List.setIfInBounds_toArray, List.set_cons_zero, List.set_cons_succ, i64_w, i32_w]; rfl)
  refine tS (v := ?_) (a' := ?_) 2 (some 11) (lb 7 5) rfl rfl (by kernel_rfl) (fun _ _ _ h => h) hHeld (by rfl) ?_ ?_ ?_; rotate_left; (rintro w' ⟨s0, s1, s2, s3, s4, s5, s6, s7, s8, s9⟩; go_simp; with_reducible rfl); rotate_left; (simp only [Act.put, List.setIfInBounds_toArray, List.set_cons_zero, List.set_cons_succ, i64_w, i32_w]; rfl)
  refine tS (v := ?_) (a' := ?_) 3 (some 12) (lb 7 13) rfl rfl (by kernel_rfl) (fun _ _ _ h => h) hHeld (by rfl) ?_ ?_ ?_; rotate_left; (rintro w' ⟨s0, s1, s2, s3, s4, s5, s6, s7, s8, s9⟩; go_simp; with_reducible rfl); rotate_left; (simp only [Act.put, List.setIfInBounds_toArray, List.set_cons_zero, List.set_cons_succ, i64_w, i32_w]; rfl)
  refine tS (v := ?_) (a' := ?_) 4 (some 13) (lb 7 29) rfl rfl (by kernel_rfl) (fun _ _ _ h => h) hHeld (by rfl) ?_ ?_ ?_; rotate_left; (rintro w' ⟨s0, s1, s2, s3, s4, s5, s6, s7, s8, s9⟩; go_simp; with_reducible rfl); rotate_left; (simp only [Act.put, List.setIfInBounds_toArray, List.set_cons_zero, List.set_cons_succ, i64_w, i32_w]; rfl)
  refine one_ (i := 1) (N := some 10) (lb 7 31) rfl rfl (by kernel_rfl) (by decide) (fun K hK => ?_)
  refine goes_ Try.func96 (by kernel_rfl) rfl #[.pointer (some ⟨gg, 0, none⟩)] (by rfl) rfl rfl (by simp only [List.map_toArray, List.map_cons, List.map_nil]; rfl) ?_
  with_reducible refine (gunder_T gg gp gc gm gl gs g3 G w0 _ JI.out).mono ?_
  rintro e w5 ⟨rfl, rfl⟩
  refine ⟨_, rfl, ?_⟩
  refine hK.out _ _ ⟨(blk_cell X0.out 0).trans rfl, (blk_cell X0.out 1).trans rfl, (blk_cell X0.out 2).trans rfl, (blk_cell X0.out 3).trans rfl, (blk_cell X1.out 0).trans rfl, (blk_cell X1.out 1).trans rfl, (blk_cell X1.out 2).trans rfl, (blk_cell X2.out 0).trans rfl, (blk_cell X2.out 1).trans rfl, (blk_cell X2.out 2).trans rfl⟩ (fun hHeld => ?_)
  clear hK K
  refine norm_ (a' := ?_) ?_ ?_
  rotate_left
  · show Act.put _ (some 10) _ = _
    simp only [Act.put, List.setIfInBounds_toArray, List.set_cons_zero, List.set_cons_succ, i64_w, i32_w]
    rfl
  refine one_ (i := 5) (N := some 14) (lb 7 63) rfl rfl (by kernel_rfl) (by decide) (fun K hK => ?_)
  refine goes_ Try.func33 (by kernel_rfl) rfl #[.pointer (some ⟨gp, 0, none⟩), Value.agg #[.int .i64 pk, .int .i64 ps, .int .i64 pp, .int .i64 id], Value.agg #[.int .u64 ox, .int .i64 oy, .bool ost], Value.agg #[.int .u64 x, .int .i64 y, .bool st]] (by rfl) rfl rfl (by simp only [List.map_toArray, List.map_cons, List.map_nil]; rfl) ?_
  with_reducible refine (pswap_T gp gc gm G.p pk ps pp id ox oy x y ost st w0 _ JI.out.plain JB.out).mono ?_
  rintro e w6 ⟨rfl, h1_, h2_, h3_⟩
  refine ⟨_, rfl, ?_⟩
  rw [HBB.out]
  have KI := Aside0.mk (JI.out.turnP h1_ h3_)
  have KB := Aside0.mk h2_
  have KF := Aside0.mk (JF.out.trans (frPT h3_))
  have Y0 := Aside0.mk (JI.out.plain.cells.stays h3_ X0.out (by decide))
  have Y1 := Aside0.mk (JI.out.plain.cells.stays h3_ X1.out (by decide))
  have Y2 := Aside0.mk (JI.out.plain.cells.stays h3_ X2.out (by decide))
  clear h1_ h2_ h3_
  refine hK.out _ _ ⟨(blk_cell Y0.out 0).trans rfl, (blk_cell Y0.out 1).trans rfl, (blk_cell Y0.out 2).trans rfl, (blk_cell Y0.out 3).trans rfl, (blk_cell Y1.out 0).trans rfl, (blk_cell Y1.out 1).trans rfl, (blk_cell Y1.out 2).trans rfl, (blk_cell Y2.out 0).trans rfl, (blk_cell Y2.out 1).trans rfl, (blk_cell Y2.out 2).trans rfl⟩ (fun hHeld => ?_)
  clear hK K
  refine norm_ (a' := ?_) ?_ ?_
  rotate_left
  · show Act.put _ (some 14) _ = _
    simp only [Act.put, List.setIfInBounds_toArray, List.set_cons_zero, List.set_cons_succ, i64_w, i32_w]
    rfl
  refine pS (v := ?_) (a' := ?_) 6 (some 15) (lb 7 127) rfl rfl (by kernel_rfl) (fun _ _ _ h => h) (by rfl) ?_ ?_ ?_; rotate_left; (intro w'; go_simp; with_reducible rfl); rotate_left; (simp only [Act.put, List.setIfInBounds_toArray, List.set_cons_zero, List.set_cons_succ, i64_w, i32_w]; rfl)
  refine done_ (by kernel_rfl) ?_
  cases bb with
  | false =>
    have E := Aside0.mk (show gswapG G (pk, ps, pp) id ox x y (ost || st) = { G with p := cswapC G.p (pk, ps, pp) ox x } by unfold gswapG; rw [HBB.out]; rfl)
    go_wp2_with fail
    go_ret
    rw [E.out]
    exact ⟨rfl, KI.out, KB.out, KF.out⟩
  | true =>
    have E := Aside0.mk (show gswapG G (pk, ps, pp) id ox x y (ost || st) = leadG { G with p := cswapC G.p (pk, ps, pp) ox x } (pk, ps, pp) id y (ost || st) by unfold gswapG; rw [HBB.out]; rfl)
    have a0 : w6.cell? ⟨w.heap.size, 0, none⟩ = some (.int .i64 pk) := (blk_cell Y0.out 0).trans rfl
    have a1 : w6.cell? ⟨w.heap.size, 1, none⟩ = some (.int .i64 ps) := (blk_cell Y0.out 1).trans rfl
    have a2 : w6.cell? ⟨w.heap.size, 2, none⟩ = some (.int .i64 pp) := (blk_cell Y0.out 2).trans rfl
    have a3 : w6.cell? ⟨w.heap.size, 3, none⟩ = some (.int .i64 id) := (blk_cell Y0.out 3).trans rfl
    have b0 : w6.cell? ⟨w.heap.size + 1 + 1, 0, none⟩ = some (.int .u64 x) := (blk_cell Y2.out 0).trans rfl
    have b1 : w6.cell? ⟨w.heap.size + 1 + 1, 1, none⟩ = some (.int .i64 y) := (blk_cell Y2.out 1).trans rfl
    have b2 : w6.cell? ⟨w.heap.size + 1 + 1, 2, none⟩ = some (.bool st) := (blk_cell Y2.out 2).trans rfl
    have d2 : w6.cell? ⟨w.heap.size + 1, 2, none⟩ = some (.bool ost) := (blk_cell Y1.out 2).trans rfl
    go_wp2_with fail
    refine (glead_U gg gp gc gm gl gs g3 _ pk ps pp id x y st ost w0 w6 KI.out KB.out).mono ?_
    rintro e w7 ⟨rfl, h1_, h2_, h3_⟩
    have R1 := Aside0.mk h1_
    have R2 := Aside0.mk h2_
    have R3 := Aside0.mk (KF.out.trans h3_)
    clear h1_ h2_ h3_
    go_wp2_with fail
    go_ret
    rw [E.out]
    exact ⟨rfl, R1.out, R2.out, R3.out⟩
def gaddG (G : GSt) (k : K3) (n : Int) : GSt := { G with p := caddC G.p k n }
set_option maxHeartbeats 4000000 in
set_option maxRecDepth 100000 in
theorem gadd_U (gg gp gc gm gl gs g3 : Nat) (G : GSt) (pk ps pp id n : Int) (w0 w : World) (hI : GhostIs w0 w gg gp gc gm gl gs g3 G) (hB : Below w0.heap.size w0 w) :
    Calls Try.prog 48 #[.pointer (some ⟨gg, 0, none⟩), .agg #[.int .i64 pk, .int .i64 ps, .int .i64 pp, .int .i64 id], .int .u64 n] w (GPostT w0 w gg gp gc gm gl gs g3 (gaddG G (pk, ps, pp) n) (.int .u64 (getw G.p.m (pk, ps, pp)))) := by
  have hu121 := Try.underlying121
  have hu25 := Try.underlying25
  have hu28 := Try.underlying28
  have hu23 := Try.underlying23
  have JI := Aside0.mk (hI.alloc (.cells #[.int .i64 pk, .int .i64 ps, .int .i64 pp, .int .i64 id] 25)).drew
  have JB := Aside0.mk (below_drew (below_alloc hB (.cells #[.int .i64 pk, .int .i64 ps, .int .i64 pp, .int .i64 id] 25)))
  have JF := Aside0.mk ((Fr.refl (GhostT gg gc gm gl) w).alloc (.cells #[.int .i64 pk, .int .i64 ps, .int .i64 pp, .int .i64 id] 25)).drew
  have X0 := Aside0.mk (blk_drew (blk_new w (.cells #[.int .i64 pk, .int .i64 ps, .int .i64 pp, .int .i64 id] 25)))
  clear hI hB
  go_enter Try.func48, Try.ntmps48
  go_wp2_with fail
  refine start_ (n := 6) (S := fun w' => w'.cell? ⟨w.heap.size, 0, none⟩ = some (.int .i64 pk) ∧ w'.cell? ⟨w.heap.size, 1, none⟩ = some (.int .i64 ps) ∧ w'.cell? ⟨w.heap.size, 2, none⟩ = some (.int .i64 pp) ∧ w'.cell? ⟨w.heap.size, 3, none⟩ = some (.int .i64 id)) (ds := [4]) (lb 6 0) (by kernel_rfl) rfl rfl ⟨(blk_cell X0.out 0).trans rfl, (blk_cell X0.out 1).trans rfl, (blk_cell X0.out 2).trans rfl, (blk_cell X0.out 3).trans rfl⟩ (fun hHeld => ?_)
  refine pS (v := ?_) (a' := ?_) 0 (some 7) (lb 6 1) rfl rfl (by kernel_rfl) (fun _ _ _ h => h) (by rfl) ?_ ?_ ?_; rotate_left; (intro w'; go_simp; with_reducible rfl); rotate_left; (simp only [Act.put, List.setIfInBounds_toArray, List.set_cons_zero, List.set_cons_succ, i64_w, i32_w]; rfl)
  refine pS (v := ?_) (a' := ?_) 3 (some 10) (lb 6 9) rfl rfl (by kernel_rfl) (fun _ _ _ h => h) (by rfl) ?_ ?_ ?_; rotate_left; (intro w'; go_simp; with_reducible rfl); rotate_left; (simp only [Act.put, List.setIfInBounds_toArray, List.set_cons_zero, List.set_cons_succ, i64_w, i32_w]; rfl)
  refine tS (v := ?_) (a' := ?_) 2 (some 9) (lb 6 13) rfl rfl (by kernel_rfl) (fun _ _ _ h => h) hHeld (by rfl) ?_ ?_ ?_; rotate_left; (rintro w' ⟨s0, s1, s2, s3⟩; go_simp; with_reducible rfl); rotate_left; (simp only [Act.put, List.setIfInBounds_toArray, List.set_cons_zero, List.set_cons_succ, i64_w, i32_w]; rfl)
  refine one_ (i := 1) (N := some 8) (lb 6 15) rfl rfl (by kernel_rfl) (by decide) (fun K hK => ?_)
  refine goes_ Try.func96 (by kernel_rfl) rfl #[.pointer (some ⟨gg, 0, none⟩)] (by rfl) rfl rfl (by simp only [List.map_toArray, List.map_cons, List.map_nil]; rfl) ?_
  with_reducible refine (gunder_T gg gp gc gm gl gs g3 G w0 _ JI.out).mono ?_
  rintro e w5 ⟨rfl, rfl⟩
  refine ⟨_, rfl, ?_⟩
  refine hK.out _ _ ⟨(blk_cell X0.out 0).trans rfl, (blk_cell X0.out 1).trans rfl, (blk_cell X0.out 2).trans rfl, (blk_cell X0.out 3).trans rfl⟩ (fun hHeld => ?_)
  clear hK K
  refine norm_ (a' := ?_) ?_ ?_
  rotate_left
  · show Act.put _ (some 8) _ = _
    simp only [Act.put, List.setIfInBounds_toArray, List.set_cons_zero, List.set_cons_succ, i64_w, i32_w]
    rfl
  refine last_ (i := 4) (N := some 11) (lb 6 31) rfl rfl (by kernel_rfl) (by decide) (fun K hK => ?_)
  refine goes_ Try.func34 (by kernel_rfl) rfl #[.pointer (some ⟨gp, 0, none⟩), Value.agg #[.int .i64 pk, .int .i64 ps, .int .i64 pp, .int .i64 id], .int .u64 n] (by rfl) rfl rfl (by simp only [List.map_toArray, List.map_cons, List.map_nil]; rfl) ?_
  with_reducible refine (padd_T gp gc gm G.p pk ps pp id n w0 _ JI.out.plain JB.out).mono ?_
  rintro e w6 ⟨rfl, h1_, h2_, h3_⟩
  refine ⟨_, rfl, ?_⟩
  have KI := Aside0.mk (JI.out.turnP h1_ h3_)
  have KB := Aside0.mk h2_
  have KF := Aside0.mk (JF.out.trans (frPT h3_))
  clear h1_ h2_ h3_
  refine hK.out _ _ ?_
  clear hK K
  refine norm_ (a' := ?_) ?_ ?_
  rotate_left
  · show Act.put _ (some 11) _ = _
    simp only [Act.put, List.setIfInBounds_toArray, List.set_cons_zero, List.set_cons_succ, i64_w, i32_w]
    rfl
  refine pS (v := ?_) (a' := ?_) 5 (some 6) (lb 6 63) rfl rfl (by kernel_rfl) (fun _ _ _ h => h) (by rfl) ?_ ?_ ?_; rotate_left; (intro w'; go_simp; with_reducible rfl); rotate_left; (simp only [Act.put, List.setIfInBounds_toArray, List.set_cons_zero, List.set_cons_succ, i64_w, i32_w]; rfl)
  refine done_ (by kernel_rfl) ?_
  go_wp2_with fail
  go_ret
  exact ⟨rfl, KI.out, KB.out, KF.out⟩
set_option maxHeartbeats 4000000 in
set_option maxRecDepth 100000 in
theorem gpeek_T (gg gp gc gm gl gs g3 : Nat) (G : GSt) (pk ps pp : Int) (w0 w : World) (hI : GhostIs w0 w gg gp gc gm gl gs g3 G) :
    Calls Try.prog 49 #[.pointer (some ⟨gg, 0, none⟩), .agg #[.int .i64 pk, .int .i64 ps, .int .i64 pp]] w fun e w' => e = .returned (.int .u64 (getw G.p.m (pk, ps, pp))) ∧ Below w.heap.size w w' := by
  have hu121 := Try.underlying121
  have hu25 := Try.underlying25
  have hu28 := Try.underlying28
  have hu23 := Try.underlying23
  have JI := Aside0.mk (hI.alloc (.cells #[.int .i64 pk, .int .i64 ps, .int .i64 pp] 23)).drew
  have B0 := Aside0.mk (below_drew (below_alloc (Below.refl w.heap.size w) (.cells #[.int .i64 pk, .int .i64 ps, .int .i64 pp] 23)))
  have X0 := Aside0.mk (blk_drew (blk_new w (.cells #[.int .i64 pk, .int .i64 ps, .int .i64 pp] 23)))
  clear hI
  go_enter Try.func49, Try.ntmps49
  go_wp2_with fail
  refine start_ (n := 5) (S := fun w' => w'.cell? ⟨w.heap.size, 0, none⟩ = some (.int .i64 pk) ∧ w'.cell? ⟨w.heap.size, 1, none⟩ = some (.int .i64 ps) ∧ w'.cell? ⟨w.heap.size, 2, none⟩ = some (.int .i64 pp)) (ds := [3]) (lb 5 0) (by kernel_rfl) rfl rfl ⟨(blk_cell X0.out 0).trans rfl, (blk_cell X0.out 1).trans rfl, (blk_cell X0.out 2).trans rfl⟩ (fun hHeld => ?_)
  refine pS (v := ?_) (a' := ?_) 0 (some 5) (lb 5 1) rfl rfl (by kernel_rfl) (fun _ _ _ h => h) (by rfl) ?_ ?_ ?_; rotate_left; (intro w'; go_simp; with_reducible rfl); rotate_left; (simp only [Act.put, List.setIfInBounds_toArray, List.set_cons_zero, List.set_cons_succ, i64_w, i32_w]; rfl)
  refine tS (v := ?_) (a' := ?_) 2 (some 7) (lb 5 5) rfl rfl (by kernel_rfl) (fun _ _ _ h => h) hHeld (by rfl) ?_ ?_ ?_; rotate_left; (rintro w' ⟨s0, s1, s2⟩; go_simp; with_reducible rfl); rotate_left; (simp only [Act.put, List.setIfInBounds_toArray, List.set_cons_zero, List.set_cons_succ, i64_w, i32_w]; rfl)
  refine one_ (i := 1) (N := some 6) (lb 5 7) rfl rfl (by kernel_rfl) (by decide) (fun K hK => ?_)
  refine goes_ Try.func96 (by kernel_rfl) rfl #[.pointer (some ⟨gg, 0, none⟩)] (by rfl) rfl rfl (by simp only [List.map_toArray, List.map_cons, List.map_nil]; rfl) ?_
  with_reducible refine (gunder_T gg gp gc gm gl gs g3 G w0 _ JI.out).mono ?_
  rintro e w5 ⟨rfl, rfl⟩
  refine ⟨_, rfl, ?_⟩
  refine hK.out _ _ ⟨(blk_cell X0.out 0).trans rfl, (blk_cell X0.out 1).trans rfl, (blk_cell X0.out 2).trans rfl⟩ (fun hHeld => ?_)
  clear hK K
  refine norm_ (a' := ?_) ?_ ?_
  rotate_left
  · show Act.put _ (some 6) _ = _
    simp only [Act.put, List.setIfInBounds_toArray, List.set_cons_zero, List.set_cons_succ, i64_w, i32_w]
    rfl
  refine last_ (i := 3) (N := some 8) (lb 5 15) rfl rfl (by kernel_rfl) (by decide) (fun K hK => ?_)
  refine goes_ Try.func35 (by kernel_rfl) rfl #[.pointer (some ⟨gp, 0, none⟩), Value.agg #[.int .i64 pk, .int .i64 ps, .int .i64 pp]] (by rfl) rfl rfl (by simp only [List.map_toArray, List.map_cons, List.map_nil]; rfl) ?_
  with_reducible refine (ppeek_T gp gc gm G.p pk ps pp w0 _ JI.out.plain).mono ?_
  rintro e w6 ⟨rfl, hb⟩
  refine ⟨_, rfl, ?_⟩
  have R2 := Aside0.mk (below_step B0.out hb)
  clear hb
  refine hK.out _ _ ?_
  clear hK K
  refine norm_ (a' := ?_) ?_ ?_
  rotate_left
  · show Act.put _ (some 8) _ = _
    simp only [Act.put, List.setIfInBounds_toArray, List.set_cons_zero, List.set_cons_succ, i64_w, i32_w]
    rfl
  refine pS (v := ?_) (a' := ?_) 4 (some 4) (lb 5 31) rfl rfl (by kernel_rfl) (fun _ _ _ h => h) (by rfl) ?_ ?_ ?_; rotate_left; (intro w'; go_simp; with_reducible rfl); rotate_left; (simp only [Act.put, List.setIfInBounds_toArray, List.set_cons_zero, List.set_cons_succ, i64_w, i32_w]; rfl)
  refine done_ (by kernel_rfl) ?_
  go_wp2_with fail
  go_ret
  exact ⟨rfl, R2.out⟩
def gbornG (G : GSt) (slot : Int) : GSt := { G with now := bornNow G.now G.row slot, row := bornRow G.row slot }
set_option maxHeartbeats 4000000 in
set_option maxRecDepth 100000 in
theorem gborn_T (gg gp gc gm gl gs g3 : Nat) (G : GSt) (slot : Int) (w0 w : World) (hI : GhostIs w0 w gg gp gc gm gl gs g3 G) (hB : Below w0.heap.size w0 w) (hl : G.row.length ≤ 100000) :
    Calls Try.prog 39 #[.pointer (some ⟨gg, 0, none⟩), .int .i64 slot] w (GPost w0 w gg gp gc gm gl gs g3 (gbornG G slot) (.int .i64 (bornId G.row slot))) := by
  have HI := Aside0.mk hI
  have HB := Aside0.mk hB
  have HL := Aside0.mk hl
  clear hI hB hl
  go_enter Try.func39, Try.ntmps39
  go_wp2_with fail
  refine (gsouls_T gg gp gc gm gl gs g3 G w0 _ HI.out).mono ?_
  rintro e w1 ⟨rfl, rfl⟩
  obtain ⟨v, hv⟩ := HI.out.soul
  have HV := Aside0.mk hv
  clear hv
  go_wp2_with fail
  refine (soulBorn_T gs g3 v G.now G.row slot w0 _ HV.out HB.out HL.out).mono ?_
  rintro e w2 ⟨rfl, h1, h2, h3⟩
  have R1 := Aside0.mk (HI.out.turnS h3 h1)
  have R2 := Aside0.mk h2
  have R3 := Aside0.mk (frS (gg := gg) (gc := gc) (gm := gm) (gl := gl) h3)
  clear h1 h2 h3
  go_wp2_with fail
  go_ret
  exact ⟨rfl, R1.out, R2.out, R3.out⟩
def G0 : GSt := ⟨C0, [], [], [], 0, 0⟩
set_option maxHeartbeats 4000000 in
set_option maxRecDepth 100000 in
theorem gnew_T (w : World) : Calls Try.prog 38 #[] w fun e w' => ∃ gg gp gc gm gl gs g3, e = .returned (.pointer (some ⟨gg, 0, none⟩)) ∧ GhostIs w w' gg gp gc gm gl gs g3 G0 ∧ Below w.heap.size w w' := by
  have hu121 := Try.underlying121
  have hmm := @run_makeMap Try.prog
  go_enter Try.func38, Try.ntmps38
  go_wp2_with fail
  refine (pnew_T w).mono ?_
  rintro e w1 ⟨gp, gc, gm, rfl, h1, h2⟩
  have P1 := Aside0.mk (h1.alloc (.map #[] 0))
  have L1 := Aside0.mk (MapIs.new (ek := eP) (ev := eI) w1)
  have B1 := Aside0.mk (below_alloc h2 (.map #[] 0))
  have N1 := Aside0.mk (show gm < w1.heap.size from h1.cells.map.lt)
  have SZ := Aside0.mk h2.size
  clear h1 h2
  go_wp2_with fail
  have SZ2 := Aside0.mk (show (w1.alloc (.map #[] 0)).heap.size = w1.heap.size + 1 by simp)
  generalize w1.alloc (.map #[] 0) = w2 at *
  refine (soulNew_T w2).mono ?_
  rintro e w3 ⟨gs, g3, rfl, h1, h2⟩
  have P3 := Aside0.mk ((P1.out.below h2).alloc (.cells #[.pointer (some ⟨gp, 0, none⟩), .map (some w1.heap.size), .pointer (some ⟨gs, 0, none⟩), .int .i64 0, .int .i64 0] 121))
  have L3 := Aside0.mk ((L1.out.below h2).below (below_alloc (Below.refl _ _) (.cells #[.pointer (some ⟨gp, 0, none⟩), .map (some w1.heap.size), .pointer (some ⟨gs, 0, none⟩), .int .i64 0, .int .i64 0] 121)))
  have H3 := Aside0.mk ((h1.rebase (w0 := w) B1.out.size).alloc (.cells #[.pointer (some ⟨gp, 0, none⟩), .map (some w1.heap.size), .pointer (some ⟨gs, 0, none⟩), .int .i64 0, .int .i64 0] 121))
  have B3 := Aside0.mk (below_alloc (below_step B1.out h2) (.cells #[.pointer (some ⟨gp, 0, none⟩), .map (some w1.heap.size), .pointer (some ⟨gs, 0, none⟩), .int .i64 0, .int .i64 0] 121))
  have N3 := Aside0.mk h1.b2
  have SZ3 := Aside0.mk (below_step B1.out h2).size
  clear h1 h2
  go_wp2_with fail
  go_ret
  refine ⟨_, gp, gc, gm, w1.heap.size, gs, g3, rfl, ⟨blk_new _ _, P3.out, L3.out, ⟨_, H3.out⟩, SZ3.out, SZ.out, ?_, ?_, ?_⟩, B3.out⟩
  · have := N1.out; omega
  · have := N1.out; have := N3.out; have := SZ2.out; omega
  · have := N3.out; have := SZ2.out; omega
theorem glead_T (gg gp gc gm gl gs g3 : Nat) (G : GSt) (pk ps pp id x y : Int) (st sl : Bool) (w0 w : World) (hI : GhostIs w0 w gg gp gc gm gl gs g3 G) (hB : Below w0.heap.size w0 w) :
    Calls Try.prog 95 #[.pointer (some ⟨gg, 0, none⟩), .agg #[.int .i64 pk, .int .i64 ps, .int .i64 pp, .int .i64 id], .agg #[.int .u64 x, .int .i64 y, .bool st], .bool sl] w (GPost w0 w gg gp gc gm gl gs g3 (leadG G (pk, ps, pp) id y (sl || st)) (.tuple #[])) :=
  (glead_U gg gp gc gm gl gs g3 G pk ps pp id x y st sl w0 w hI hB).mono fun _ _ h => h.post
theorem gstore_T (gg gp gc gm gl gs g3 : Nat) (G : GSt) (pk ps pp id x y : Int) (st : Bool) (w0 w : World) (hI : GhostIs w0 w gg gp gc gm gl gs g3 G) (hB : Below w0.heap.size w0 w) :
    Calls Try.prog 44 #[.pointer (some ⟨gg, 0, none⟩), .agg #[.int .i64 pk, .int .i64 ps, .int .i64 pp, .int .i64 id], .agg #[.int .u64 x, .int .i64 y, .bool st]] w (GPost w0 w gg gp gc gm gl gs g3 (gstoreG G (pk, ps, pp) id x y st) (.tuple #[])) :=
  (gstore_U gg gp gc gm gl gs g3 G pk ps pp id x y st w0 w hI hB).mono fun _ _ h => h.post
theorem gswap_T (gg gp gc gm gl gs g3 : Nat) (G : GSt) (pk ps pp id ox oy x y : Int) (ost st : Bool) (w0 w : World) (hI : GhostIs w0 w gg gp gc gm gl gs g3 G) (hB : Below w0.heap.size w0 w) :
    Calls Try.prog 46 #[.pointer (some ⟨gg, 0, none⟩), .agg #[.int .i64 pk, .int .i64 ps, .int .i64 pp, .int .i64 id], .agg #[.int .u64 ox, .int .i64 oy, .bool ost], .agg #[.int .u64 x, .int .i64 y, .bool st]] w (GPost w0 w gg gp gc gm gl gs g3 (gswapG G (pk, ps, pp) id ox x y (ost || st)) (.bool (cswapR G.p (pk, ps, pp) ox))) :=
  (gswap_U gg gp gc gm gl gs g3 G pk ps pp id ox oy x y ost st w0 w hI hB).mono fun _ _ h => h.post
theorem gadd_T (gg gp gc gm gl gs g3 : Nat) (G : GSt) (pk ps pp id n : Int) (w0 w : World) (hI : GhostIs w0 w gg gp gc gm gl gs g3 G) (hB : Below w0.heap.size w0 w) :
    Calls Try.prog 48 #[.pointer (some ⟨gg, 0, none⟩), .agg #[.int .i64 pk, .int .i64 ps, .int .i64 pp, .int .i64 id], .int .u64 n] w (GPost w0 w gg gp gc gm gl gs g3 (gaddG G (pk, ps, pp) n) (.int .u64 (getw G.p.m (pk, ps, pp)))) :=
  (gadd_U gg gp gc gm gl gs g3 G pk ps pp id n w0 w hI hB).mono fun _ _ h => h.post
end Go.Proofs.Ytlpnggapndokeaa.PIdealKeeps

namespace Go.Proofs.Ytlpnggapndokeaa.PIdealKeeps
open Go Go.RowKit Go.Proofs.YtlpnggapndokeaaW.PrintWords Go.Proofs.YtlpnggapndokeaaW.PrintLast Go.Proofs.YtlpnggapndokeaaW.PrintMore Go.Proofs.Ytlpnggapndokeaa.M
attribute [local go_sem] max2_int min2_int max_two min_two max_three min_three max_four min_four
set_option linter.unusedVariables false
set_option linter.unusedSimpArgs false
/-- The block of the row of births. -/
def rowAt (w : World) (gs : Nat) : Option Nat := (w.cell? ⟨gs, 1, none⟩).bind Value.ownBlock
def RowS (gs g3 : Nat) (r : Option Nat) (j : Nat) (_ : Obj) : Prop := j = gs ∨ j = g3 ∨ some j = r
theorem SoulIs.rowAt {w0 w : World} {gs g3 : Nat} {v : Value} {now : List (Int × Int)} {row : List Int} (h : SoulIs w0 w gs g3 v now row) : rowAt w gs = v.ownBlock := by
  unfold PIdealKeeps.rowAt
  rw [blk_cell h.blk 1]
  rfl
theorem SoulIs.row_lt {w0 w : World} {gs g3 : Nat} {v : Value} {now : List (Int × Int)} {row : List Int} (h : SoulIs w0 w gs g3 v now row) : ∀ k, PIdealKeeps.rowAt w gs = some k → k < w.heap.size := by
  intro k hk
  rw [h.rowAt] at hk
  exact Kd.R_lt h.row k hk
theorem rowAt_of {w w1 : World} {gs : Nat} (h : w1.heap[gs]? = w.heap[gs]?) : rowAt w1 gs = rowAt w gs := by
  unfold rowAt
  rw [World.cell?_of_block (a := ⟨gs, 1, none⟩) h]
set_option maxHeartbeats 4000000 in
set_option maxRecDepth 100000 in
theorem gborn_U (gg gp gc gm gl gs g3 : Nat) (G : GSt) (slot : Int) (w0 w : World) (hI : GhostIs w0 w gg gp gc gm gl gs g3 G) (hB : Below w0.heap.size w0 w) (hl : G.row.length ≤ 100000) :
    Calls Try.prog 39 #[.pointer (some ⟨gg, 0, none⟩), .int .i64 slot] w fun e w' => e = .returned (.int .i64 (bornId G.row slot)) ∧ GhostIs w0 w' gg gp gc gm gl gs g3 (gbornG G slot) ∧ Below w0.heap.size w0 w' ∧ Fr (RowS gs g3 (rowAt w gs)) w w' ∧ (rowAt w' gs = rowAt w gs ∨ ∃ b, rowAt w' gs = some b ∧ w.heap.size ≤ b) := by
  have HI := Aside0.mk hI
  have HB := Aside0.mk hB
  have HL := Aside0.mk hl
  clear hI hB hl
  go_enter Try.func39, Try.ntmps39
  go_wp2_with fail
  refine (gsouls_T gg gp gc gm gl gs g3 G w0 _ HI.out).mono ?_
  rintro e w1 ⟨rfl, rfl⟩
  obtain ⟨v, hv⟩ := HI.out.soul
  have HV := Aside0.mk hv
  clear hv
  go_wp2_with fail
  refine (soulBorn_U gs g3 v G.now G.row slot w0 _ HV.out HB.out HL.out).mono ?_
  rintro e w2 ⟨rfl, ⟨v', h1, h4⟩, h2, h3⟩
  have hS : Fr (SoulS gs g3) w1 w2 := ⟨h3.1, fun j o hj hs => h3.2 j o hj (fun x => by
    rcases x with x | x | x
    · exact hs (.inl x)
    · exact hs (.inr (.inl x))
    · exact hs (.inr (.inr (row_ok HV.out.row j x.symm o hj))))⟩
  have R1 := Aside0.mk (HI.out.turnS hS ⟨v', h1⟩)
  have R2 := Aside0.mk h2
  have R3 := Aside0.mk (show Fr (RowS gs g3 (rowAt w1 gs)) w1 w2 by rw [HV.out.rowAt]; exact h3)
  have R4 := Aside0.mk (show rowAt w2 gs = rowAt w1 gs ∨ ∃ b, rowAt w2 gs = some b ∧ w1.heap.size ≤ b by rw [HV.out.rowAt, h1.rowAt]; exact h4)
  clear h1 h2 h3 h4 hS
  go_wp2_with fail
  go_ret
  exact ⟨rfl, R1.out, R2.out, R3.out, R4.out⟩
/-- Two watched memories with no block in common. -/
structure ApartG (gg gc gm gl gs g3 hg hc hm hl hs h3 : Nat) : Prop where
  gg : gg ≠ hg
  gc : gc ≠ hc
  gs : gs ≠ hs
  mm : gm ≠ hm
  ml : gm ≠ hl
  m3 : gm ≠ h3
  lm : gl ≠ hm
  ll : gl ≠ hl
  l3 : gl ≠ h3
  tm : g3 ≠ hm
  tl : g3 ≠ hl
  tt : g3 ≠ h3
theorem ApartG.symm {gg gc gm gl gs g3 hg hc hm hl hs h3 : Nat} (a : ApartG gg gc gm gl gs g3 hg hc hm hl hs h3) : ApartG hg hc hm hl hs h3 gg gc gm gl gs g3 :=
  ⟨a.gg.symm, a.gc.symm, a.gs.symm, a.mm.symm, a.lm.symm, a.tm.symm, a.ml.symm, a.ll.symm, a.tl.symm, a.m3.symm, a.l3.symm, a.tt.symm⟩
section
variable {w0 w w1 : World} {gg gp gc gm gl gs g3 hg hp hc hm hl hs h3 : Nat} {G H : GSt}
/-- By kinds: blocks that a call may turn. -/
theorem GhostIs.fr (h : GhostIs w0 w gg gp gc gm gl gs g3 G) {S : Nat → Obj → Prop} (hf : Fr S w w1) (s1 : ∀ cs, ¬ S gg (.cells cs 121 (0, 0))) (s2 : ∀ cs, ¬ S gp (.cells cs 116 (0, 0))) (s3 : ∀ cs, ¬ S gc (.cells cs 131 (0, 0))) (s4 : ∀ es c, ¬ S gm (.map es c)) (s5 : ∀ es c, ¬ S gl (.map es c)) (s6 : ∀ cs, ¬ S gs (.cells cs 114 (0, 0))) (s7 : ∀ es c, ¬ S g3 (.map es c))
    (s8 : ∀ k o, rowAt w gs = some k → ¬ S k o) : GhostIs w0 w1 gg gp gc gm gl gs g3 G := by
  obtain ⟨v, hv⟩ := h.soul
  refine ⟨hf.blk h.blk (s1 _), h.plain.fr hf s2 s3 s4, mapIs_frm h.leads hf s5, ⟨v, ⟨hf.blk hv.blk (s6 _), mapIs_frm hv.map hf s7, ?_, hv.b1, hv.b2⟩⟩, h.b, h.bl, h.n1, h.n2, h.n3⟩
  rw [hv.rowAt] at s8
  exact Kd.R_mono (Kd.R_step (Kd.R_mono (ok' := fun k => v.ownBlock = some k) (Kd.R_tight rfl hv.row) (fun k hk => hk.symm)) (fun k hk hlt => by
    obtain ⟨o, ho⟩ : ∃ o, w.heap[k]? = some o := ⟨_, Array.getElem?_eq_getElem hlt⟩
    exact (hf.2 k o ho (s8 k o hk)).trans ho.symm)) (fun _ _ => trivial)
theorem GhostIs.rowTy (h : GhostIs w0 w gg gp gc gm gl gs g3 G) {k : Nat} (hk : rowAt w gs = some k) {o : Obj} (ho : w.heap[k]? = some o) : IsRow 3 o := by
  obtain ⟨v, hv⟩ := h.soul
  rw [hv.rowAt] at hk
  exact row_ok hv.row k hk o ho
theorem GhostIs.rowAt_lt (h : GhostIs w0 w gg gp gc gm gl gs g3 G) {k : Nat} (hk : rowAt w gs = some k) : k < w.heap.size := by
  obtain ⟨v, hv⟩ := h.soul
  exact hv.row_lt k hk
/-- The other one stays, whatever an access of the one turns. -/
theorem gg1 (hA : GhostIs w0 w gg gp gc gm gl gs g3 G) (hB : GhostIs w0 w hg hp hc hm hl hs h3 H) (ap : ApartG gg gc gm gl gs g3 hg hc hm hl hs h3) (hf : Fr (GhostT gg gc gm gl) w w1) : GhostIs w0 w1 hg hp hc hm hl hs h3 H ∧ rowAt w1 hs = rowAt w hs := by
  obtain ⟨v, hv⟩ := hB.soul
  have no : ∀ {p : Nat} {cs : Array Value} {t : TypeId}, w.heap[p]? = some (.cells cs t (0, 0)) → (p = gg → False) → (p = gc → False) → ∀ o, ¬ GhostT gg gc gm gl p o := by
    rintro p cs t hb n1 n2 o (e | e | (e | e) | e)
    · exact n1 e
    · exact mapIs_ne hA.leads hb e
    · exact n2 e
    · exact mapIs_ne hA.plain.cells.map hb e
    · exact e
  have nm : ∀ {p : Nat} {ek : K3 → Value} {ev : Int → Value} {m : List (K3 × Int)}, MapIs ek ev w p m → p ≠ gl → p ≠ gm → ∀ o, ¬ GhostT gg gc gm gl p o := by
    rintro p ek ev m hm n1 n2 o (e | e | (e | e) | e)
    · exact mapIs_ne hm hA.blk e.symm
    · exact n1 e
    · exact mapIs_ne hm hA.plain.cells.blk e.symm
    · exact n2 e
    · exact e
  have nm3 : ∀ o, ¬ GhostT gg gc gm gl h3 o := by
    rintro o (e | e | (e | e) | e)
    · exact mapIs_ne hv.map hA.blk e.symm
    · exact ap.l3 e.symm
    · exact mapIs_ne hv.map hA.plain.cells.blk e.symm
    · exact ap.m3 e.symm
    · exact e
  have ns := no hv.blk (fun e => by subst e; exact blk_ne hv.blk hA.blk (by decide) rfl) (fun e => by subst e; exact blk_ne hv.blk hA.plain.cells.blk (by decide) rfl)
  refine ⟨hB.fr hf (fun cs => no hB.blk (fun e => ap.gg e.symm) (fun e => by subst e; exact blk_ne hB.blk hA.plain.cells.blk (by decide) rfl) _) (fun cs => no hB.plain.blk (fun e => by subst e; exact blk_ne hB.plain.blk hA.blk (by decide) rfl) (fun e => by subst e; exact blk_ne hB.plain.blk hA.plain.cells.blk (by decide) rfl) _)
    (fun cs => no hB.plain.cells.blk (fun e => by subst e; exact blk_ne hB.plain.cells.blk hA.blk (by decide) rfl) (fun e => ap.gc e.symm) _) (fun es c => nm hB.plain.cells.map (fun e => ap.lm e.symm) (fun e => ap.mm e.symm) _) (fun es c => nm hB.leads (fun e => ap.ll e.symm) (fun e => ap.ml e.symm) _) (fun cs => ns _) (fun es c => nm3 _) ?_, ?_⟩
  · intro k o hk
    obtain ⟨cells, hc⟩ := hB.rowTy hk (Array.getElem?_eq_getElem (hB.rowAt_lt hk))
    have hb : w.heap[k]? = some (.cells cells 3 (0, 0)) := by rw [Array.getElem?_eq_getElem (hB.rowAt_lt hk), hc]
    exact no hb (fun e => by subst e; exact blk_ne hb hA.blk (by decide) rfl) (fun e => by subst e; exact blk_ne hb hA.plain.cells.blk (by decide) rfl) o
  · exact rowAt_of ((hf.blk hv.blk (ns _)).trans hv.blk.symm)
/-- .. and whatever a birth of the one turns. -/
theorem gg2 (hA : GhostIs w0 w gg gp gc gm gl gs g3 G) (hB : GhostIs w0 w hg hp hc hm hl hs h3 H) (ap : ApartG gg gc gm gl gs g3 hg hc hm hl hs h3) (hr : ∀ k, rowAt w gs = some k → rowAt w hs ≠ some k) (hf : Fr (RowS gs g3 (rowAt w gs)) w w1) : GhostIs w0 w1 hg hp hc hm hl hs h3 H ∧ rowAt w1 hs = rowAt w hs := by
  obtain ⟨v, hv⟩ := hB.soul
  obtain ⟨u, hu⟩ := hA.soul
  have no : ∀ {p : Nat} {cs : Array Value} {t : TypeId}, w.heap[p]? = some (.cells cs t (0, 0)) → t ≠ 3 → (p = gs → False) → ∀ o, ¬ RowS gs g3 (rowAt w gs) p o := by
    rintro p cs t hb n1 n2 o (e | e | e)
    · exact n2 e
    · exact mapIs_ne hu.map hb e
    · obtain ⟨cells, hc⟩ := hA.rowTy e.symm hb
      injection hc with _ hc
      exact n1 hc
  have nm : ∀ {K V : Type} {p : Nat} {ek : K → Value} {ev : V → Value} {m : List (K × V)}, MapIs ek ev w p m → p ≠ g3 → ∀ o, ¬ RowS gs g3 (rowAt w gs) p o := by
    rintro K V p ek ev m hm n1 o (e | e | e)
    · exact mapIs_ne hm hu.blk e.symm
    · exact n1 e
    · obtain ⟨es, c, hb, _⟩ := hm
      obtain ⟨cells, hc⟩ := hA.rowTy e.symm hb
      cases hc
  have ns := no hv.blk (by decide) (fun e => ap.gs e.symm)
  refine ⟨hB.fr hf (fun cs => no hB.blk (by decide) (fun e => by subst e; exact blk_ne hB.blk hu.blk (by decide) rfl) _) (fun cs => no hB.plain.blk (by decide) (fun e => by subst e; exact blk_ne hB.plain.blk hu.blk (by decide) rfl) _)
    (fun cs => no hB.plain.cells.blk (by decide) (fun e => by subst e; exact blk_ne hB.plain.cells.blk hu.blk (by decide) rfl) _) (fun es c => nm hB.plain.cells.map (fun e => ap.tm e.symm) _) (fun es c => nm hB.leads (fun e => ap.tl e.symm) _) (fun cs => ns _) (fun es c => nm hv.map (fun e => ap.tt e.symm) _) ?_, ?_⟩
  · rintro k o hk (e | e | e)
    · obtain ⟨cells, hc⟩ := hB.rowTy hk (e ▸ hu.blk)
      injection hc with _ hc
      exact absurd hc (by decide)
    · obtain ⟨es, c, hb, _⟩ := hu.map
      obtain ⟨cells, hc⟩ := hB.rowTy hk (e ▸ hb)
      cases hc
    · exact hr k e.symm hk
  · exact rowAt_of ((hf.blk hv.blk (ns _)).trans hv.blk.symm)
end
end Go.Proofs.Ytlpnggapndokeaa.PIdealKeeps

