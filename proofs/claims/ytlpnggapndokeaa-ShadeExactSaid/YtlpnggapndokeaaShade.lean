/-
The memory that tells anything of those who are not any more: what its functions compute.
-/
import Derived.WalkSpells
import Derived.Test.YtlpnggapndokeaaWords
import Derived.Test.YtlpnggapndokeaaGhostC
namespace Go.Proofs.Ytlpnggapndokeaa.PIdealKeeps
open Go Go.RowKit Go.Proofs.YtlpnggapndokeaaW.PrintWords Go.Proofs.YtlpnggapndokeaaW.PrintLast Go.Proofs.YtlpnggapndokeaaW.PrintMore Go.Proofs.Ytlpnggapndokeaa.M
attribute [local go_sem] max2_int min2_int max_two min_two max_three min_three max_four min_four
set_option linter.unusedVariables false
set_option linter.unusedSimpArgs false
theorem infoC26 : (Try.prog.info? 26).map (fun i => (i.zero, i.size, i.bytes)) = some (some (.int .u64 0), 1, 8) := by kernel_rfl
theorem C_none {α : Type} {d : Kd α} {w : World} {n : Nat} {xs : List α} (h : Kd.C d w none n xs) : n = 0 ∧ xs = [] := by
  rcases Nat.eq_zero_or_pos n with h0 | h0
  · have := h.1
    exact ⟨h0, List.length_eq_zero_iff.1 (by omega)⟩
  · obtain ⟨ad, h, _⟩ := h.2.2 h0
    cases h
theorem R_empty {α : Type} (d : Kd α) (e : Nat) (W : World) (ok : Nat → Prop) (hf : ok W.heap.size) : d.R e (W.alloc (.cells #[] e)) W.heap.size ok (.slice (some ⟨W.heap.size, 0, none⟩) 0 0) [] := by
  refine ⟨fun k hk => ?_, [], ?_, Reps.none _ _⟩
  · have : W.heap.size = k := by simpa [Value.ownBlock] using hk
    subst this
    exact hf
  · have h2 := World.ownsRow_lit (base := W.heap.size) (e := e) (size := d.sz) W #[] 0 (Nat.le_refl _) (by simp [maxLen]) (by simp)
    simpa using h2
def slices_Clone_word.f (l0 : List Int) : Option (List Int) := if l0.length ≤ 17592186044416 then some l0 else none
set_option maxHeartbeats 8000000 in
set_option maxRecDepth 100000 in
theorem slices_Clone_word.calls (A0 : Option Addr) (c0 : Nat) (l0 : List Int) (r : List Int) (w : World) (hr0 : Kd.C (Kd.int .u64) w A0 l0.length l0) (hc0 : l0.length ≤ c0) (h : slices_Clone_word.f l0 = some r) :
    Calls Try.prog 103 #[.slice A0 l0.length c0] w fun e w' => ∃ v0_ : Value, e = .returned (v0_) ∧ Kd.R (Kd.int .u64) 26 w' w.heap.size (fun _ => True) v0_ r ∧ Below w.heap.size w w' := by
  unfold slices_Clone_word.f at h
  by_cases hl : l0.length ≤ 17592186044416
  · rw [if_pos hl] at h
    obtain rfl := Option.some.inj h
    have HL := Aside0.mk hl
    have HC := Aside0.mk hc0
    clear h hl hc0
    have hq := Lib.run_eql_slice_nil (P := Try.prog) (t := 82) (e := 26) (h := Try.underlying82)
    cases A0 with
    | none =>
      obtain ⟨h0, rfl⟩ := C_none hr0
      clear hr0
      go_enter Try.func103, Try.ntmps103
      go_wp2_with fail
      go_ret
      exact ⟨_, rfl, Kd.R_nil _ _ _ _ _, Below.refl _ _⟩
    | some ad =>
      have HR := Aside0.mk hr0
      clear hr0
      go_enter Try.func103, Try.ntmps103
      go_wp2_with (first | ((with_reducible refine gate_builtin (b := .append) (xs := #[.tmp 5, .tmp 6]) rfl ?_); at_builtin; refine Kd.R_append_rows (Kd.int .u64) (w0 := w) w.heap.size rfl (.tmp 5) (.tmp 6) 82 26 (.int .u64 0) 8 rfl Try.underlying82 infoC26 rfl (by decide) (by omega) (.slice (some ⟨w.heap.size, 0, none⟩) 0 0) [] l0 _ _ _ (fun _ => True) (fun _ => False) rfl rfl ?aO ?aR (fun _ _ h => h) (fun _ h => h.elim) ?aF ?aB ?aS ?aL ?_; (case aO => exact R_empty (Kd.int .u64) 26 w _ trivial); (case aR => exact Kd.C_below HR.out (below_alloc (Below.refl _ _) _)); (case aF => exact fun _ _ => trivial); (case aB => exact below_alloc (Below.refl _ _) _); (case aS => exact (below_alloc (Below.refl w.heap.size w) _).size); (case aL => exact (by have := HL.out; simp only [List.length_nil]; omega)); intro v1 w1 R1 B1 G1 O1))
      go_ret
      rw [List.nil_append] at R1
      exact ⟨_, rfl, R1, B1⟩
  · rw [if_neg hl] at h
    cases h
/-- What a row of words tells of the n th stale load. -/
def nextW (ws : List Int) (n : Int) : Int := if ws.length = 0 then 0 else rd ws ((n - 1).tmod ws.length)
structure ShadeIs (w0 w : World) (gh gg gp gc gm gl gs g3 : Nat) (G : GSt) (sv : Value) (ws : List Int) : Prop where
  blk : w.heap[gh]? = some (.cells #[.pointer (some ⟨gg, 0, none⟩), sv] 134 (0, 0))
  ghost : GhostIs w0 w gg gp gc gm gl gs g3 G
  row : (Kd.int .u64).R 26 w w0.heap.size (fun _ => True) sv ws
  b : w0.heap.size ≤ gh
section
variable {w0 w w1 : World} {gh gg gp gc gm gl gs g3 : Nat} {G : GSt} {sv : Value} {ws : List Int} {S : Nat → Obj → Prop}
theorem ShadeIs.below (h : ShadeIs w0 w gh gg gp gc gm gl gs g3 G sv ws) (hb : Below w.heap.size w w1) : ShadeIs w0 w1 gh gg gp gc gm gl gs g3 G sv ws := ⟨blk_below h.blk hb, h.ghost.below hb, Kd.R_below h.row hb, h.b⟩
theorem ShadeIs.alloc (h : ShadeIs w0 w gh gg gp gc gm gl gs g3 G sv ws) (o : Obj) : ShadeIs w0 (w.alloc o) gh gg gp gc gm gl gs g3 G sv ws := h.below (below_alloc (Below.refl _ _) o)
theorem ShadeIs.drew (h : ShadeIs w0 w gh gg gp gc gm gl gs g3 G sv ws) : ShadeIs w0 w.drew gh gg gp gc gm gl gs g3 G sv ws := h.below (below_drew (Below.refl _ _))
theorem ShadeIs.keep (h : ShadeIs w0 w gh gg gp gc gm gl gs g3 G sv ws) {G' : GSt} (h1 : GhostIs w0 w1 gg gp gc gm gl gs g3 G') (hf : Fr S w w1) (s1 : ∀ cs, ¬ S gh (.cells cs 134 (0, 0))) (s2 : ∀ j cs, w.heap[j]? = some (.cells cs 26 (0, 0)) → ¬ S j (.cells cs 26 (0, 0))) : ShadeIs w0 w1 gh gg gp gc gm gl gs g3 G' sv ws := by
  refine ⟨hf.blk h.blk (s1 _), h1, ?_, h.b⟩
  refine Kd.R_mono (Kd.R_move (Kd.R_bound h.row) (fun j hj => ?_)) (fun _ hk => hk.1)
  obtain ⟨_, _, _, q, hq, cells, hc⟩ := hj
  have hq' : q = 26 := by simpa [Kd.int, Kd.scalar] using hq
  subst hq'
  exact (hf.2 j _ hc (s2 j cells hc)).trans hc.symm
theorem ghostT_no (hG : GhostIs w0 w gg gp gc gm gl gs g3 G) {p : Nat} {cs : Array Value} {t : TypeId} (hb : w.heap[p]? = some (.cells cs t (0, 0))) (n1 : t ≠ 121) (n2 : t ≠ 131) (o : Obj) : ¬ GhostT gg gc gm gl p o := by
  rintro (e | e | (e | e) | e)
  · subst e; exact blk_ne hb hG.blk n1 rfl
  · exact mapIs_ne hG.leads hb e
  · subst e; exact blk_ne hb hG.plain.cells.blk n2 rfl
  · exact mapIs_ne hG.plain.cells.map hb e
  · exact e
theorem rowS_no (hG : GhostIs w0 w gg gp gc gm gl gs g3 G) {p : Nat} {cs : Array Value} {t : TypeId} (hb : w.heap[p]? = some (.cells cs t (0, 0))) (n1 : t ≠ 114) (n2 : t ≠ 3) (o : Obj) : ¬ RowS gs g3 (rowAt w gs) p o := by
  obtain ⟨v, hv⟩ := hG.soul
  rintro (e | e | e)
  · subst e; exact blk_ne hb hv.blk n1 rfl
  · exact mapIs_ne hv.map hb e
  · obtain ⟨cells, hc⟩ := hG.rowTy e.symm hb
    injection hc with _ hc
    exact n2 hc
theorem ShadeIs.turn (h : ShadeIs w0 w gh gg gp gc gm gl gs g3 G sv ws) {G' : GSt} (h1 : GhostIs w0 w1 gg gp gc gm gl gs g3 G') (hf : Fr (GhostT gg gc gm gl) w w1) : ShadeIs w0 w1 gh gg gp gc gm gl gs g3 G' sv ws :=
  h.keep h1 hf (fun cs => ghostT_no h.ghost h.blk (by decide) (by decide) _) (fun j cs hj => ghostT_no h.ghost hj (by decide) (by decide) _)
theorem ShadeIs.turnB (h : ShadeIs w0 w gh gg gp gc gm gl gs g3 G sv ws) {G' : GSt} (h1 : GhostIs w0 w1 gg gp gc gm gl gs g3 G') (hf : Fr (RowS gs g3 (rowAt w gs)) w w1) : ShadeIs w0 w1 gh gg gp gc gm gl gs g3 G' sv ws :=
  h.keep h1 hf (fun cs => rowS_no h.ghost h.blk (by decide) (by decide) _) (fun j cs hj => rowS_no h.ghost hj (by decide) (by decide) _)
theorem GhostIs.staysT (h : GhostIs w0 w gg gp gc gm gl gs g3 G) (hf : Fr (GhostT gg gc gm gl) w w1) {p : Nat} {cs : Array Value} {t : TypeId} (hb : w.heap[p]? = some (.cells cs t (0, 0))) (n1 : t ≠ 121) (n2 : t ≠ 131) : w1.heap[p]? = some (.cells cs t (0, 0)) := hf.blk hb (ghostT_no h hb n1 n2 _)
theorem GhostIs.staysB (h : GhostIs w0 w gg gp gc gm gl gs g3 G) (hf : Fr (RowS gs g3 (rowAt w gs)) w w1) {p : Nat} {cs : Array Value} {t : TypeId} (hb : w.heap[p]? = some (.cells cs t (0, 0))) (n1 : t ≠ 114) (n2 : t ≠ 3) : w1.heap[p]? = some (.cells cs t (0, 0)) := hf.blk hb (rowS_no h hb n1 n2 _)
/-- A block of another type is written. -/
theorem ShadeIs.far (h : ShadeIs w0 w gh gg gp gc gm gl gs g3 G sv ws) {p : Nat} {cs : Array Value} {t : TypeId} (hb : w.heap[p]? = some (.cells cs t (0, 0))) (h0 : t ≠ 134) (hr : t ≠ 26) (h1 : t ≠ 121) (h2 : t ≠ 116) (h3 : t ≠ 131) (h4 : t ≠ 114) (h5 : t ≠ 3) (i : Nat) (u : Value) : ShadeIs w0 (w.setCell ⟨p, i, none⟩ u) gh gg gp gc gm gl gs g3 G sv ws :=
  h.keep (h.ghost.far hb h1 h2 h3 h4 h5 i u) (Fr.set1 hb i u) (fun cs' x => by
    obtain ⟨e, hx⟩ := x
    injection hx with _ hx
    exact h0 hx.symm) (fun j cs' hj x => by
    obtain ⟨e, hx⟩ := x
    injection hx with _ hx
    exact hr hx.symm)
end
/-- What an access leaves, and answers. -/
def SPost (w0 w : World) (gh gg gp gc gm gl gs g3 : Nat) (G : GSt) (sv : Value) (ws : List Int) (r : Value) (e : Ending) (w' : World) : Prop := e = .returned r ∧ ShadeIs w0 w' gh gg gp gc gm gl gs g3 G sv ws ∧ Below w0.heap.size w0 w' ∧ Fr (GhostT gg gc gm gl) w w'
set_option maxHeartbeats 4000000 in
set_option maxRecDepth 100000 in
theorem sunder_T (gh gg gp gc gm gl gs g3 : Nat) (G : GSt) (sv : Value) (ws : List Int) (w0 w : World) (hI : ShadeIs w0 w gh gg gp gc gm gl gs g3 G sv ws) : Calls Try.prog 105 #[.pointer (some ⟨gh, 0, none⟩)] w fun e w' => e = .returned (.pointer (some ⟨gg, 0, none⟩)) ∧ w' = w := by
  have hu134 := Try.underlying134
  have c_ : w.cell? ⟨gh, 0, none⟩ = some (.pointer (some ⟨gg, 0, none⟩)) := (blk_cell hI.blk 0).trans rfl
  clear hI
  go_enter Try.func105, Try.ntmps105
  go_wp2_with fail
  go_ret
  exact ⟨rfl, rfl⟩
theorem sunderNil_T (w : World) : Calls Try.prog 105 #[.pointer none] w fun e w' => e = .returned (.pointer none) ∧ w' = w := by
  go_enter Try.func105, Try.ntmps105
  go_wp2_with fail
  go_ret
  exact ⟨rfl, rfl⟩
set_option maxHeartbeats 4000000 in
set_option maxRecDepth 100000 in
theorem stold_T (gh gg gp gc gm gl gs g3 : Nat) (G : GSt) (sv : Value) (ws : List Int) (w0 w : World) (hI : ShadeIs w0 w gh gg gp gc gm gl gs g3 G sv ws) : Calls Try.prog 57 #[.pointer (some ⟨gh, 0, none⟩)] w fun e w' => e = .returned (.int .i64 G.stale) ∧ w' = w := by
  have HI := Aside0.mk hI
  clear hI
  go_enter Try.func57, Try.ntmps57
  go_wp2_with fail
  refine (sunder_T gh gg gp gc gm gl gs g3 G sv ws w0 w HI.out).mono ?_
  rintro e w1 ⟨rfl, rfl⟩
  go_wp2_with fail
  refine (gstale_T gg gp gc gm gl gs g3 G w0 _ HI.out.ghost).mono ?_
  rintro e w2 ⟨rfl, rfl⟩
  go_wp2_with fail
  go_ret
  exact ⟨rfl, rfl⟩
theorem stoldNil_T (w : World) : Calls Try.prog 57 #[.pointer none] w fun e w' => e = .returned (.int .i64 0) ∧ w' = w := by
  go_enter Try.func57, Try.ntmps57
  go_wp2_with fail
  refine (sunderNil_T w).mono ?_
  rintro e w1 ⟨rfl, rfl⟩
  go_wp2_with fail
  refine (gstaleNil_T _).mono ?_
  rintro e w2 ⟨rfl, rfl⟩
  go_wp2_with fail
  go_ret
  exact ⟨rfl, rfl⟩
set_option maxHeartbeats 4000000 in
set_option maxRecDepth 100000 in
theorem sfaults_T (gh gg gp gc gm gl gs g3 : Nat) (G : GSt) (sv : Value) (ws : List Int) (w0 w : World) (hI : ShadeIs w0 w gh gg gp gc gm gl gs g3 G sv ws) : Calls Try.prog 58 #[.pointer (some ⟨gh, 0, none⟩)] w fun e w' => e = .returned (.int .i64 G.faults) ∧ w' = w := by
  have HI := Aside0.mk hI
  clear hI
  go_enter Try.func58, Try.ntmps58
  go_wp2_with fail
  refine (sunder_T gh gg gp gc gm gl gs g3 G sv ws w0 w HI.out).mono ?_
  rintro e w1 ⟨rfl, rfl⟩
  go_wp2_with fail
  refine (gfaults_T gg gp gc gm gl gs g3 G w0 _ HI.out.ghost).mono ?_
  rintro e w2 ⟨rfl, rfl⟩
  go_wp2_with fail
  go_ret
  exact ⟨rfl, rfl⟩
theorem sfaultsNil_T (w : World) : Calls Try.prog 58 #[.pointer none] w fun e w' => e = .returned (.int .i64 0) ∧ w' = w := by
  go_enter Try.func58, Try.ntmps58
  go_wp2_with fail
  refine (sunderNil_T w).mono ?_
  rintro e w1 ⟨rfl, rfl⟩
  go_wp2_with fail
  refine (gfaultsNil_T _).mono ?_
  rintro e w2 ⟨rfl, rfl⟩
  go_wp2_with fail
  go_ret
  exact ⟨rfl, rfl⟩
set_option maxHeartbeats 4000000 in
set_option maxRecDepth 100000 in
theorem snext_T (gh gg gp gc gm gl gs g3 : Nat) (G : GSt) (sv : Value) (ws : List Int) (n : Int) (w0 w : World) (hI : ShadeIs w0 w gh gg gp gc gm gl gs g3 G sv ws) (hn : 1 ≤ n) (hm : n ≤ 1000000) : Calls Try.prog 106 #[.pointer (some ⟨gh, 0, none⟩), .int .i64 n] w fun e w' => e = .returned (.int .u64 (nextW ws n)) ∧ Below w.heap.size w w' := by
  have hu134 := Try.underlying134
  obtain ⟨A, c, rfl, hc, hC⟩ := Kd.R_reads hI.row
  have c1 : w.cell? ⟨gh, 1, none⟩ = some (.slice A ws.length c) := (blk_cell hI.blk 1).trans rfl
  have HC := Aside0.mk hC
  have HI := Aside0.mk hI
  have HCM := Aside0.mk (Kd.C_max hC)
  clear hI hc hC
  by_cases h0 : ws.length = 0
  · have t1 : ((ws.length : Int) == 0) = true := by rw [h0]; rfl
    have E := Aside0.mk (show nextW ws n = 0 from if_pos h0)
    clear h0
    go_enter Try.func106, Try.ntmps106
    go_wp2_with fail
    go_ret
    rw [E.out]
    exact ⟨rfl, Below.refl _ _⟩
  · have t1 : ((ws.length : Int) == 0) = false := beq_eq_false_iff_ne.mpr (by omega)
    have e1 : wrap64 (n - 1) = n - 1 := by unfold wrap64; omega
    have hpos : (0 : Int) < (ws.length : Int) := by omega
    have p0 : 0 ≤ (n - 1).tmod ws.length := by rw [Go.Proofs.Ytlpnggapndokeaa.U.tmod_pos (by omega)]; exact Int.emod_nonneg _ (Int.ne_of_gt hpos)
    have q0 : (n - 1).tmod ws.length < ws.length := by rw [Go.Proofs.Ytlpnggapndokeaa.U.tmod_pos (by omega)]; exact Int.emod_lt_of_pos _ hpos
    have e2 : wrap64 ((n - 1).tmod ws.length) = (n - 1).tmod ws.length := by have := HCM.out; unfold wrap64; omega
    obtain ⟨ad, hA, hx⟩ := Kd.at_int HC.out _ p0 q0
    subst hA
    have E := Aside0.mk (show nextW ws n = rd ws ((n - 1).tmod ws.length) from if_neg h0)
    have hx2 : w.drew.cell? (ad.add ((n - 1).tmod ws.length).toNat) = some (.int .u64 (rd ws ((n - 1).tmod ws.length))) := hx
    have c2 : w.drew.cell? ⟨gh, 1, none⟩ = some (.slice (some ad) ws.length c) := c1
    have p0b : decide (0 ≤ (n - 1).tmod ws.length) = true := decide_eq_true p0
    have nz : ((ws.length : Int) == 0) = false := t1
    have nz2 : ¬ ws = [] := by intro e; rw [e] at h0; exact h0 rfl
    replace p0 := eq_true p0
    replace q0 := eq_true q0
    clear hx h0 hn hm hpos
    rw [E.out]
    go_enter Try.func106, Try.ntmps106
    go_wp2_with fail
    refine start_ (n := 15) (S := fun w' => w'.cell? ⟨gh, 1, none⟩ = some (.slice (some ad) ws.length c) ∧ w'.cell? (ad.add ((n - 1).tmod ws.length).toNat) = some (.int .u64 (rd ws ((n - 1).tmod ws.length)))) (ds := []) #[false, false, false, false, false, false, false, false, false, false, false, false, false, false, false] (by kernel_rfl) rfl rfl ⟨c2, hx2⟩ (fun hHeld => ?_)
    refine pure_ (i := 0) (N := some 11) (v := ?_) (a' := ?_) #[true, false, false, false, false, false, false, false, false, false, false, false, false, false, false] rfl rfl (by kernel_rfl) (fun _ _ _ h => h) (Or.inl ⟨by rfl, ?_⟩) ?_ ?_
    rotate_left
    · intro w'
      go_simp
      with_reducible rfl
    rotate_left
    · simp only [Act.put, List.setIfInBounds_toArray, List.set_cons_zero, List.set_cons_succ, i64_w, i32_w]
      rfl
    refine pure_ (i := 1) (N := some 12) (v := ?_) (a' := ?_) #[true, true, false, false, false, false, false, false, false, false, false, false, false, false, false] rfl rfl (by kernel_rfl) (fun _ _ _ h => h) (Or.inl ⟨by rfl, ?_⟩) ?_ ?_
    rotate_left
    · intro w'
      go_simp
      with_reducible rfl
    rotate_left
    · simp only [Act.put, List.setIfInBounds_toArray, List.set_cons_zero, List.set_cons_succ, i64_w, i32_w]
      rfl
    refine pure_ (i := 2) (N := some 13) (v := ?_) (a' := ?_) #[true, true, true, false, false, false, false, false, false, false, false, false, false, false, false] rfl rfl (by kernel_rfl) (fun _ _ _ h => h) (Or.inl ⟨by rfl, ?_⟩) ?_ ?_
    rotate_left
    · intro w'
      go_simp
      with_reducible rfl
    rotate_left
    · simp only [Act.put, List.setIfInBounds_toArray, List.set_cons_zero, List.set_cons_succ, i64_w, i32_w]
      rfl
    refine pure_ (i := 4) (N := some 15) (v := ?_) (a' := ?_) #[true, true, true, false, true, false, false, false, false, false, false, false, false, false, false] rfl rfl (by kernel_rfl) (fun _ _ _ h => h) (Or.inl ⟨by rfl, ?_⟩) ?_ ?_
    rotate_left
    · intro w'
      go_simp
      with_reducible rfl
    rotate_left
    · simp only [Act.put, List.setIfInBounds_toArray, List.set_cons_zero, List.set_cons_succ, i64_w, i32_w]
      rfl
    refine pure_ (i := 5) (N := some 16) (v := ?_) (a' := ?_) #[true, true, true, false, true, true, false, false, false, false, false, false, false, false, false] rfl rfl (by kernel_rfl) (fun _ _ _ h => h) (Or.inl ⟨by rfl, ?_⟩) ?_ ?_
    rotate_left
    · intro w'
      go_simp
      with_reducible rfl
    rotate_left
    · simp only [Act.put, List.setIfInBounds_toArray, List.set_cons_zero, List.set_cons_succ, i64_w, i32_w]
      rfl
    refine pure_ (i := 6) (N := some 17) (v := ?_) (a' := ?_) #[true, true, true, false, true, true, true, false, false, false, false, false, false, false, false] rfl rfl (by kernel_rfl) (fun _ _ _ h => h) (Or.inl ⟨by rfl, ?_⟩) ?_ ?_
    rotate_left
    · intro w'
      go_simp
      with_reducible rfl
    rotate_left
    · simp only [Act.put, List.setIfInBounds_toArray, List.set_cons_zero, List.set_cons_succ, i64_w, i32_w]
      rfl
    refine pure_ (i := 7) (N := some 18) (v := ?_) (a' := ?_) #[true, true, true, false, true, true, true, true, false, false, false, false, false, false, false] rfl rfl (by kernel_rfl) (fun _ _ _ h => h) (Or.inl ⟨by rfl, ?_⟩) ?_ ?_
    rotate_left
    · intro w'
      go_simp
      with_reducible rfl
    rotate_left
    · simp only [Act.put, List.setIfInBounds_toArray, List.set_cons_zero, List.set_cons_succ, i64_w, i32_w]
      rfl
    refine pure_ (i := 8) (N := some 19) (v := ?_) (a' := ?_) #[true, true, true, false, true, true, true, true, true, false, false, false, false, false, false] rfl rfl (by kernel_rfl) (fun _ _ _ h => h) (Or.inl ⟨by rfl, ?_⟩) ?_ ?_
    rotate_left
    · intro w'
      go_simp
      with_reducible rfl
    rotate_left
    · simp only [Act.put, List.setIfInBounds_toArray, List.set_cons_zero, List.set_cons_succ, i64_w, i32_w]
      rfl
    refine take_ (i := 3) (N := some 14) (v := ?_) (a' := ?_) #[true, true, true, true, true, true, true, true, true, false, false, false, false, false, false] rfl rfl (by kernel_rfl) (fun _ _ _ h => h) (Or.inl ⟨by rfl, ?_⟩) hHeld ?_ ?_
    rotate_left
    · rintro w' ⟨s0, s1⟩
      go_simp
      with_reducible rfl
    rotate_left
    · simp only [Act.put, List.setIfInBounds_toArray, List.set_cons_zero, List.set_cons_succ, i64_w, i32_w]
      rfl
    refine take_ (i := 9) (N := some 20) (v := ?_) (a' := ?_) #[true, true, true, true, true, true, true, true, true, true, false, false, false, false, false] rfl rfl (by kernel_rfl) (fun _ _ _ h => h) (Or.inl ⟨by rfl, ?_⟩) hHeld ?_ ?_
    rotate_left
    · rintro w' ⟨s0, s1⟩
      go_simp
      with_reducible rfl
    rotate_left
    · simp only [Act.put, List.setIfInBounds_toArray, List.set_cons_zero, List.set_cons_succ, i64_w, i32_w]
      rfl
    refine pure_ (i := 10) (N := some 21) (v := ?_) (a' := ?_) #[true, true, true, true, true, true, true, true, true, true, true, false, false, false, false] rfl rfl (by kernel_rfl) (fun _ _ _ h => h) (Or.inl ⟨by rfl, ?_⟩) ?_ ?_
    rotate_left
    · intro w'
      go_simp
      with_reducible rfl
    rotate_left
    · simp only [Act.put, List.setIfInBounds_toArray, List.set_cons_zero, List.set_cons_succ, i64_w, i32_w]
      rfl
    refine pure_ (i := 11) (N := some 22) (v := ?_) (a' := ?_) #[true, true, true, true, true, true, true, true, true, true, true, true, false, false, false] rfl rfl (by kernel_rfl) (fun _ _ _ h => h) (Or.inl ⟨by rfl, ?_⟩) ?_ ?_
    rotate_left
    · intro w'
      go_simp
      with_reducible rfl
    rotate_left
    · simp only [Act.put, List.setIfInBounds_toArray, List.set_cons_zero, List.set_cons_succ, i64_w, i32_w]
      rfl
    refine pure_ (i := 12) (N := some 23) (v := ?_) (a' := ?_) #[true, true, true, true, true, true, true, true, true, true, true, true, true, false, false] rfl rfl (by kernel_rfl) (fun _ _ _ h => h) (Or.inl ⟨by rfl, ?_⟩) ?_ ?_
    rotate_left
    · intro w'
      go_simp
      with_reducible rfl
    rotate_left
    · simp only [Act.put, List.setIfInBounds_toArray, List.set_cons_zero, List.set_cons_succ, i64_w, i32_w]
      rfl
    refine take_ (i := 13) (N := some 24) (v := ?_) (a' := ?_) #[true, true, true, true, true, true, true, true, true, true, true, true, true, true, false] rfl rfl (by kernel_rfl) (fun _ _ _ h => h) (Or.inl ⟨by rfl, ?_⟩) hHeld ?_ ?_
    rotate_left
    · rintro w' ⟨s0, s1⟩
      go_simp
      with_reducible rfl
    rotate_left
    · simp only [Act.put, List.setIfInBounds_toArray, List.set_cons_zero, List.set_cons_succ, i64_w, i32_w]
      rfl
    refine pure_ (i := 14) (N := some 4) (v := ?_) (a' := ?_) #[true, true, true, true, true, true, true, true, true, true, true, true, true, true, true] rfl rfl (by kernel_rfl) (fun _ _ _ h => h) (Or.inl ⟨by rfl, ?_⟩) ?_ ?_
    rotate_left
    · intro w'
      go_simp
      with_reducible rfl
    rotate_left
    · simp only [Act.put, List.setIfInBounds_toArray, List.set_cons_zero, List.set_cons_succ, i64_w, i32_w]
      rfl
    refine done_ (by kernel_rfl) ?_
    go_wp2_with fail
    go_ret
    exact ⟨rfl, below_drew (Below.refl _ _)⟩
set_option maxHeartbeats 4000000 in
set_option maxRecDepth 100000 in
theorem sstore_T (gh gg gp gc gm gl gs g3 : Nat) (G : GSt) (sv : Value) (ws : List Int) (pk ps pp id x y : Int) (st : Bool) (w0 w : World) (hI : ShadeIs w0 w gh gg gp gc gm gl gs g3 G sv ws) (hB : Below w0.heap.size w0 w) :
    Calls Try.prog 59 #[.pointer (some ⟨gh, 0, none⟩), .agg #[.int .i64 pk, .int .i64 ps, .int .i64 pp, .int .i64 id], .agg #[.int .u64 x, .int .i64 y, .bool st]] w (SPost w0 w gh gg gp gc gm gl gs g3 (gstoreG G (pk, ps, pp) id x y st) sv ws (.tuple #[])) := by
  have hu25 := Try.underlying25
  have hu28 := Try.underlying28
  have hu23 := Try.underlying23
  have JI := Aside0.mk ((hI.alloc (.cells #[.int .i64 pk, .int .i64 ps, .int .i64 pp, .int .i64 id] 25)).alloc (.cells #[.int .u64 x, .int .i64 y, .bool st] 28)).drew
  have JB := Aside0.mk (below_drew (below_alloc (below_alloc hB (.cells #[.int .i64 pk, .int .i64 ps, .int .i64 pp, .int .i64 id] 25)) (.cells #[.int .u64 x, .int .i64 y, .bool st] 28)))
  have JF := Aside0.mk (((Fr.refl (GhostT gg gc gm gl) w).alloc (.cells #[.int .i64 pk, .int .i64 ps, .int .i64 pp, .int .i64 id] 25)).alloc (.cells #[.int .u64 x, .int .i64 y, .bool st] 28)).drew
  have X0 := Aside0.mk (blk_drew (blk_alloc (blk_new w (.cells #[.int .i64 pk, .int .i64 ps, .int .i64 pp, .int .i64 id] 25)) (.cells #[.int .u64 x, .int .i64 y, .bool st] 28)))
  have X1 := Aside0.mk (blk_drew (blk_new2 w (.cells #[.int .i64 pk, .int .i64 ps, .int .i64 pp, .int .i64 id] 25) (.cells #[.int .u64 x, .int .i64 y, .bool st] 28)))
  clear hI hB
  go_enter Try.func59, Try.ntmps59
  go_wp2_with fail
  refine start_ (n := 5) (S := fun w' => w'.cell? ⟨w.heap.size, 0, none⟩ = some (.int .i64 pk) ∧ w'.cell? ⟨w.heap.size, 1, none⟩ = some (.int .i64 ps) ∧ w'.cell? ⟨w.heap.size, 2, none⟩ = some (.int .i64 pp) ∧ w'.cell? ⟨w.heap.size, 3, none⟩ = some (.int .i64 id) ∧ w'.cell? ⟨w.heap.size + 1, 0, none⟩ = some (.int .u64 x) ∧ w'.cell? ⟨w.heap.size + 1, 1, none⟩ = some (.int .i64 y) ∧ w'.cell? ⟨w.heap.size + 1, 2, none⟩ = some (.bool st)) (ds := [4]) #[false, false, false, false, false] (by kernel_rfl) rfl rfl ⟨(blk_cell X0.out 0).trans rfl, (blk_cell X0.out 1).trans rfl, (blk_cell X0.out 2).trans rfl, (blk_cell X0.out 3).trans rfl, (blk_cell X1.out 0).trans rfl, (blk_cell X1.out 1).trans rfl, (blk_cell X1.out 2).trans rfl⟩ (fun hHeld => ?_)
  refine pure_ (i := 0) (N := some 6) (v := ?_) (a' := ?_) #[true, false, false, false, false] rfl rfl (by kernel_rfl) (fun _ _ _ h => h) (Or.inl ⟨by rfl, ?_⟩) ?_ ?_
  rotate_left
  · intro w'
    go_simp
    with_reducible rfl
  rotate_left
  · simp only [Act.put, List.setIfInBounds_toArray, List.set_cons_zero, List.set_cons_succ, i64_w, i32_w]
    rfl
  refine take_ (i := 2) (N := some 8) (v := ?_) (a' := ?_) #[true, false, true, false, false] rfl rfl (by kernel_rfl) (fun _ _ _ h => h) (Or.inl ⟨by rfl, ?_⟩) hHeld ?_ ?_
  rotate_left
  · rintro w' ⟨s0, s1, s2, s3, s4, s5, s6⟩
    go_simp
    with_reducible rfl
  rotate_left
  · simp only [Act.put, List.setIfInBounds_toArray, List.set_cons_zero, List.set_cons_succ, i64_w, i32_w]
    rfl
  refine take_ (i := 3) (N := some 9) (v := ?_) (a' := ?_) #[true, false, true, true, false] rfl rfl (by kernel_rfl) (fun _ _ _ h => h) (Or.inl ⟨by rfl, ?_⟩) hHeld ?_ ?_
  rotate_left
  · rintro w' ⟨s0, s1, s2, s3, s4, s5, s6⟩
    go_simp
    with_reducible rfl
  rotate_left
  · simp only [Act.put, List.setIfInBounds_toArray, List.set_cons_zero, List.set_cons_succ, i64_w, i32_w]
    rfl
  refine one_ (i := 1) (N := some 7) #[true, true, true, true, false] rfl rfl (by kernel_rfl) (by decide) (fun K hK => ?_)
  refine goes_ Try.func105 (by kernel_rfl) rfl #[.pointer (some ⟨gh, 0, none⟩)] (by rfl) rfl rfl (by simp only [List.map_toArray, List.map_cons, List.map_nil]; rfl) ?_
  with_reducible refine (sunder_T gh gg gp gc gm gl gs g3 G sv ws w0 _ JI.out).mono ?_
  rintro e w5 ⟨rfl, rfl⟩
  refine ⟨_, rfl, ?_⟩
  refine hK.out _ _ ⟨(blk_cell X0.out 0).trans rfl, (blk_cell X0.out 1).trans rfl, (blk_cell X0.out 2).trans rfl, (blk_cell X0.out 3).trans rfl, (blk_cell X1.out 0).trans rfl, (blk_cell X1.out 1).trans rfl, (blk_cell X1.out 2).trans rfl⟩ (fun hHeld => ?_)
  clear hK K
  refine norm_ (a' := ?_) ?_ ?_
  rotate_left
  · show Act.put _ (some 7) _ = _
    simp only [Act.put, List.setIfInBounds_toArray, List.set_cons_zero, List.set_cons_succ, i64_w, i32_w]
    rfl
  refine last_ (i := 4) (N := some 10) #[true, true, true, true, true] rfl rfl (by kernel_rfl) (by decide) (fun K hK => ?_)
  refine goes_ Try.func44 (by kernel_rfl) rfl #[.pointer (some ⟨gg, 0, none⟩), Value.agg #[.int .i64 pk, .int .i64 ps, .int .i64 pp, .int .i64 id], Value.agg #[.int .u64 x, .int .i64 y, .bool st]] (by rfl) rfl rfl (by simp only [List.map_toArray, List.map_cons, List.map_nil]; rfl) ?_
  with_reducible refine (gstore_U gg gp gc gm gl gs g3 G pk ps pp id x y st w0 _ JI.out.ghost JB.out).mono ?_
  rintro e w6 ⟨rfl, h1_, h2_, h3_⟩
  refine ⟨_, rfl, ?_⟩
  have R1 := Aside0.mk (JI.out.turn h1_ h3_)
  have R2 := Aside0.mk h2_
  have R3 := Aside0.mk (JF.out.trans h3_)
  clear h1_ h2_ h3_
  refine hK.out _ _ ?_
  clear hK K
  refine norm_ (a' := ?_) ?_ ?_
  rotate_left
  · show Act.put _ (some 10) _ = _
    simp only [Act.put, List.setIfInBounds_toArray, List.set_cons_zero, List.set_cons_succ, i64_w, i32_w]
    rfl
  refine done_ (by kernel_rfl) ?_
  go_wp2_with fail
  refine bodyPost_end (results_none rfl _ _ _) rfl ?_
  exact ⟨rfl, R1.out, R2.out, R3.out⟩
set_option maxHeartbeats 4000000 in
set_option maxRecDepth 100000 in
theorem sswap_T (gh gg gp gc gm gl gs g3 : Nat) (G : GSt) (sv : Value) (ws : List Int) (pk ps pp id ox oy x y : Int) (ost st : Bool) (w0 w : World) (hI : ShadeIs w0 w gh gg gp gc gm gl gs g3 G sv ws) (hB : Below w0.heap.size w0 w) :
    Calls Try.prog 61 #[.pointer (some ⟨gh, 0, none⟩), .agg #[.int .i64 pk, .int .i64 ps, .int .i64 pp, .int .i64 id], .agg #[.int .u64 ox, .int .i64 oy, .bool ost], .agg #[.int .u64 x, .int .i64 y, .bool st]] w (SPost w0 w gh gg gp gc gm gl gs g3 (gswapG G (pk, ps, pp) id ox x y (ost || st)) sv ws (.bool (cswapR G.p (pk, ps, pp) ox))) := by
  have hu25 := Try.underlying25
  have hu28 := Try.underlying28
  have hu23 := Try.underlying23
  have JI := Aside0.mk (((hI.alloc (.cells #[.int .i64 pk, .int .i64 ps, .int .i64 pp, .int .i64 id] 25)).alloc (.cells #[.int .u64 ox, .int .i64 oy, .bool ost] 28)).alloc (.cells #[.int .u64 x, .int .i64 y, .bool st] 28)).drew
  have JB := Aside0.mk (below_drew (below_alloc (below_alloc (below_alloc hB (.cells #[.int .i64 pk, .int .i64 ps, .int .i64 pp, .int .i64 id] 25)) (.cells #[.int .u64 ox, .int .i64 oy, .bool ost] 28)) (.cells #[.int .u64 x, .int .i64 y, .bool st] 28)))
  have JF := Aside0.mk ((((Fr.refl (GhostT gg gc gm gl) w).alloc (.cells #[.int .i64 pk, .int .i64 ps, .int .i64 pp, .int .i64 id] 25)).alloc (.cells #[.int .u64 ox, .int .i64 oy, .bool ost] 28)).alloc (.cells #[.int .u64 x, .int .i64 y, .bool st] 28)).drew
  have X0 := Aside0.mk (blk_drew (blk_alloc (blk_alloc (blk_new w (.cells #[.int .i64 pk, .int .i64 ps, .int .i64 pp, .int .i64 id] 25)) (.cells #[.int .u64 ox, .int .i64 oy, .bool ost] 28)) (.cells #[.int .u64 x, .int .i64 y, .bool st] 28)))
  have X1 := Aside0.mk (blk_drew (blk_alloc (blk_new2 w (.cells #[.int .i64 pk, .int .i64 ps, .int .i64 pp, .int .i64 id] 25) (.cells #[.int .u64 ox, .int .i64 oy, .bool ost] 28)) (.cells #[.int .u64 x, .int .i64 y, .bool st] 28)))
  have X2 := Aside0.mk (blk_drew (blk_new3 w (.cells #[.int .i64 pk, .int .i64 ps, .int .i64 pp, .int .i64 id] 25) (.cells #[.int .u64 ox, .int .i64 oy, .bool ost] 28) (.cells #[.int .u64 x, .int .i64 y, .bool st] 28)))
  clear hI hB
  go_enter Try.func61, Try.ntmps61
  go_wp2_with fail
  refine start_ (n := 7) (S := fun w' => w'.cell? ⟨w.heap.size, 0, none⟩ = some (.int .i64 pk) ∧ w'.cell? ⟨w.heap.size, 1, none⟩ = some (.int .i64 ps) ∧ w'.cell? ⟨w.heap.size, 2, none⟩ = some (.int .i64 pp) ∧ w'.cell? ⟨w.heap.size, 3, none⟩ = some (.int .i64 id) ∧ w'.cell? ⟨w.heap.size + 1, 0, none⟩ = some (.int .u64 ox) ∧ w'.cell? ⟨w.heap.size + 1, 1, none⟩ = some (.int .i64 oy) ∧ w'.cell? ⟨w.heap.size + 1, 2, none⟩ = some (.bool ost) ∧ w'.cell? ⟨w.heap.size + 1 + 1, 0, none⟩ = some (.int .u64 x) ∧ w'.cell? ⟨w.heap.size + 1 + 1, 1, none⟩ = some (.int .i64 y) ∧ w'.cell? ⟨w.heap.size + 1 + 1, 2, none⟩ = some (.bool st)) (ds := [5]) #[false, false, false, false, false, false, false] (by kernel_rfl) rfl rfl ⟨(blk_cell X0.out 0).trans rfl, (blk_cell X0.out 1).trans rfl, (blk_cell X0.out 2).trans rfl, (blk_cell X0.out 3).trans rfl, (blk_cell X1.out 0).trans rfl, (blk_cell X1.out 1).trans rfl, (blk_cell X1.out 2).trans rfl, (blk_cell X2.out 0).trans rfl, (blk_cell X2.out 1).trans rfl, (blk_cell X2.out 2).trans rfl⟩ (fun hHeld => ?_)
  refine pure_ (i := 0) (N := some 9) (v := ?_) (a' := ?_) #[true, false, false, false, false, false, false] rfl rfl (by kernel_rfl) (fun _ _ _ h => h) (Or.inl ⟨by rfl, ?_⟩) ?_ ?_
  rotate_left
  · intro w'
    go_simp
    with_reducible rfl
  rotate_left
  · simp only [Act.put, List.setIfInBounds_toArray, List.set_cons_zero, List.set_cons_succ, i64_w, i32_w]
    rfl
  refine take_ (i := 2) (N := some 11) (v := ?_) (a' := ?_) #[true, false, true, false, false, false, false] rfl rfl (by kernel_rfl) (fun _ _ _ h => h) (Or.inl ⟨by rfl, ?_⟩) hHeld ?_ ?_
  rotate_left
  · rintro w' ⟨s0, s1, s2, s3, s4, s5, s6, s7, s8, s9⟩
    go_simp
    with_reducible rfl
  rotate_left
  · simp only [Act.put, List.setIfInBounds_toArray, List.set_cons_zero, List.set_cons_succ, i64_w, i32_w]
    rfl
  refine take_ (i := 3) (N := some 12) (v := ?_) (a' := ?_) #[true, false, true, true, false, false, false] rfl rfl (by kernel_rfl) (fun _ _ _ h => h) (Or.inl ⟨by rfl, ?_⟩) hHeld ?_ ?_
  rotate_left
  · rintro w' ⟨s0, s1, s2, s3, s4, s5, s6, s7, s8, s9⟩
    go_simp
    with_reducible rfl
  rotate_left
  · simp only [Act.put, List.setIfInBounds_toArray, List.set_cons_zero, List.set_cons_succ, i64_w, i32_w]
    rfl
  refine take_ (i := 4) (N := some 13) (v := ?_) (a' := ?_) #[true, false, true, true, true, false, false] rfl rfl (by kernel_rfl) (fun _ _ _ h => h) (Or.inl ⟨by rfl, ?_⟩) hHeld ?_ ?_
  rotate_left
  · rintro w' ⟨s0, s1, s2, s3, s4, s5, s6, s7, s8, s9⟩
    go_simp
    with_reducible rfl
  rotate_left
  · simp only [Act.put, List.setIfInBounds_toArray, List.set_cons_zero, List.set_cons_succ, i64_w, i32_w]
    rfl
  refine one_ (i := 1) (N := some 10) #[true, true, true, true, true, false, false] rfl rfl (by kernel_rfl) (by decide) (fun K hK => ?_)
  refine goes_ Try.func105 (by kernel_rfl) rfl #[.pointer (some ⟨gh, 0, none⟩)] (by rfl) rfl rfl (by simp only [List.map_toArray, List.map_cons, List.map_nil]; rfl) ?_
  with_reducible refine (sunder_T gh gg gp gc gm gl gs g3 G sv ws w0 _ JI.out).mono ?_
  rintro e w5 ⟨rfl, rfl⟩
  refine ⟨_, rfl, ?_⟩
  refine hK.out _ _ ⟨(blk_cell X0.out 0).trans rfl, (blk_cell X0.out 1).trans rfl, (blk_cell X0.out 2).trans rfl, (blk_cell X0.out 3).trans rfl, (blk_cell X1.out 0).trans rfl, (blk_cell X1.out 1).trans rfl, (blk_cell X1.out 2).trans rfl, (blk_cell X2.out 0).trans rfl, (blk_cell X2.out 1).trans rfl, (blk_cell X2.out 2).trans rfl⟩ (fun hHeld => ?_)
  clear hK K
  refine norm_ (a' := ?_) ?_ ?_
  rotate_left
  · show Act.put _ (some 10) _ = _
    simp only [Act.put, List.setIfInBounds_toArray, List.set_cons_zero, List.set_cons_succ, i64_w, i32_w]
    rfl
  refine last_ (i := 5) (N := some 14) #[true, true, true, true, true, true, false] rfl rfl (by kernel_rfl) (by decide) (fun K hK => ?_)
  refine goes_ Try.func46 (by kernel_rfl) rfl #[.pointer (some ⟨gg, 0, none⟩), Value.agg #[.int .i64 pk, .int .i64 ps, .int .i64 pp, .int .i64 id], Value.agg #[.int .u64 ox, .int .i64 oy, .bool ost], Value.agg #[.int .u64 x, .int .i64 y, .bool st]] (by rfl) rfl rfl (by simp only [List.map_toArray, List.map_cons, List.map_nil]; rfl) ?_
  with_reducible refine (gswap_U gg gp gc gm gl gs g3 G pk ps pp id ox oy x y ost st w0 _ JI.out.ghost JB.out).mono ?_
  rintro e w6 ⟨rfl, h1_, h2_, h3_⟩
  refine ⟨_, rfl, ?_⟩
  have R1 := Aside0.mk (JI.out.turn h1_ h3_)
  have R2 := Aside0.mk h2_
  have R3 := Aside0.mk (JF.out.trans h3_)
  clear h1_ h2_ h3_
  refine hK.out _ _ ?_
  clear hK K
  refine norm_ (a' := ?_) ?_ ?_
  rotate_left
  · show Act.put _ (some 14) _ = _
    simp only [Act.put, List.setIfInBounds_toArray, List.set_cons_zero, List.set_cons_succ, i64_w, i32_w]
    rfl
  refine pure_ (i := 6) (N := some 8) (v := ?_) (a' := ?_) #[true, true, true, true, true, true, true] rfl rfl (by kernel_rfl) (fun _ _ _ h => h) (Or.inl ⟨by rfl, ?_⟩) ?_ ?_
  rotate_left
  · intro w'
    go_simp
    with_reducible rfl
  rotate_left
  · simp only [Act.put, List.setIfInBounds_toArray, List.set_cons_zero, List.set_cons_succ, i64_w, i32_w]
    rfl
  refine done_ (by kernel_rfl) ?_
  go_wp2_with fail
  go_ret
  exact ⟨rfl, R1.out, R2.out, R3.out⟩
set_option maxHeartbeats 4000000 in
set_option maxRecDepth 100000 in
theorem sadd_T (gh gg gp gc gm gl gs g3 : Nat) (G : GSt) (sv : Value) (ws : List Int) (pk ps pp id n : Int) (w0 w : World) (hI : ShadeIs w0 w gh gg gp gc gm gl gs g3 G sv ws) (hB : Below w0.heap.size w0 w) :
    Calls Try.prog 62 #[.pointer (some ⟨gh, 0, none⟩), .agg #[.int .i64 pk, .int .i64 ps, .int .i64 pp, .int .i64 id], .int .u64 n] w (SPost w0 w gh gg gp gc gm gl gs g3 (gaddG G (pk, ps, pp) n) sv ws (.int .u64 (getw G.p.m (pk, ps, pp)))) := by
  have hu25 := Try.underlying25
  have hu28 := Try.underlying28
  have hu23 := Try.underlying23
  have JI := Aside0.mk (hI.alloc (.cells #[.int .i64 pk, .int .i64 ps, .int .i64 pp, .int .i64 id] 25)).drew
  have JB := Aside0.mk (below_drew (below_alloc hB (.cells #[.int .i64 pk, .int .i64 ps, .int .i64 pp, .int .i64 id] 25)))
  have JF := Aside0.mk ((Fr.refl (GhostT gg gc gm gl) w).alloc (.cells #[.int .i64 pk, .int .i64 ps, .int .i64 pp, .int .i64 id] 25)).drew
  have X0 := Aside0.mk (blk_drew (blk_new w (.cells #[.int .i64 pk, .int .i64 ps, .int .i64 pp, .int .i64 id] 25)))
  clear hI hB
  go_enter Try.func62, Try.ntmps62
  go_wp2_with fail
  refine start_ (n := 6) (S := fun w' => w'.cell? ⟨w.heap.size, 0, none⟩ = some (.int .i64 pk) ∧ w'.cell? ⟨w.heap.size, 1, none⟩ = some (.int .i64 ps) ∧ w'.cell? ⟨w.heap.size, 2, none⟩ = some (.int .i64 pp) ∧ w'.cell? ⟨w.heap.size, 3, none⟩ = some (.int .i64 id)) (ds := [4]) #[false, false, false, false, false, false] (by kernel_rfl) rfl rfl ⟨(blk_cell X0.out 0).trans rfl, (blk_cell X0.out 1).trans rfl, (blk_cell X0.out 2).trans rfl, (blk_cell X0.out 3).trans rfl⟩ (fun hHeld => ?_)
  refine pure_ (i := 0) (N := some 7) (v := ?_) (a' := ?_) #[true, false, false, false, false, false] rfl rfl (by kernel_rfl) (fun _ _ _ h => h) (Or.inl ⟨by rfl, ?_⟩) ?_ ?_
  rotate_left
  · intro w'
    go_simp
    with_reducible rfl
  rotate_left
  · simp only [Act.put, List.setIfInBounds_toArray, List.set_cons_zero, List.set_cons_succ, i64_w, i32_w]
    rfl
  refine pure_ (i := 3) (N := some 10) (v := ?_) (a' := ?_) #[true, false, false, true, false, false] rfl rfl (by kernel_rfl) (fun _ _ _ h => h) (Or.inl ⟨by rfl, ?_⟩) ?_ ?_
  rotate_left
  · intro w'
    go_simp
    with_reducible rfl
  rotate_left
  · simp only [Act.put, List.setIfInBounds_toArray, List.set_cons_zero, List.set_cons_succ, i64_w, i32_w]
    rfl
  refine take_ (i := 2) (N := some 9) (v := ?_) (a' := ?_) #[true, false, true, true, false, false] rfl rfl (by kernel_rfl) (fun _ _ _ h => h) (Or.inl ⟨by rfl, ?_⟩) hHeld ?_ ?_
  rotate_left
  · rintro w' ⟨s0, s1, s2, s3⟩
    go_simp
    with_reducible rfl
  rotate_left
  · simp only [Act.put, List.setIfInBounds_toArray, List.set_cons_zero, List.set_cons_succ, i64_w, i32_w]
    rfl
  refine one_ (i := 1) (N := some 8) #[true, true, true, true, false, false] rfl rfl (by kernel_rfl) (by decide) (fun K hK => ?_)
  refine goes_ Try.func105 (by kernel_rfl) rfl #[.pointer (some ⟨gh, 0, none⟩)] (by rfl) rfl rfl (by simp only [List.map_toArray, List.map_cons, List.map_nil]; rfl) ?_
  with_reducible refine (sunder_T gh gg gp gc gm gl gs g3 G sv ws w0 _ JI.out).mono ?_
  rintro e w5 ⟨rfl, rfl⟩
  refine ⟨_, rfl, ?_⟩
  refine hK.out _ _ ⟨(blk_cell X0.out 0).trans rfl, (blk_cell X0.out 1).trans rfl, (blk_cell X0.out 2).trans rfl, (blk_cell X0.out 3).trans rfl⟩ (fun hHeld => ?_)
  clear hK K
  refine norm_ (a' := ?_) ?_ ?_
  rotate_left
  · show Act.put _ (some 8) _ = _
    simp only [Act.put, List.setIfInBounds_toArray, List.set_cons_zero, List.set_cons_succ, i64_w, i32_w]
    rfl
  refine last_ (i := 4) (N := some 11) #[true, true, true, true, true, false] rfl rfl (by kernel_rfl) (by decide) (fun K hK => ?_)
  refine goes_ Try.func48 (by kernel_rfl) rfl #[.pointer (some ⟨gg, 0, none⟩), Value.agg #[.int .i64 pk, .int .i64 ps, .int .i64 pp, .int .i64 id], .int .u64 n] (by rfl) rfl rfl (by simp only [List.map_toArray, List.map_cons, List.map_nil]; rfl) ?_
  with_reducible refine (gadd_U gg gp gc gm gl gs g3 G pk ps pp id n w0 _ JI.out.ghost JB.out).mono ?_
  rintro e w6 ⟨rfl, h1_, h2_, h3_⟩
  refine ⟨_, rfl, ?_⟩
  have R1 := Aside0.mk (JI.out.turn h1_ h3_)
  have R2 := Aside0.mk h2_
  have R3 := Aside0.mk (JF.out.trans h3_)
  clear h1_ h2_ h3_
  refine hK.out _ _ ?_
  clear hK K
  refine norm_ (a' := ?_) ?_ ?_
  rotate_left
  · show Act.put _ (some 11) _ = _
    simp only [Act.put, List.setIfInBounds_toArray, List.set_cons_zero, List.set_cons_succ, i64_w, i32_w]
    rfl
  refine pure_ (i := 5) (N := some 6) (v := ?_) (a' := ?_) #[true, true, true, true, true, true] rfl rfl (by kernel_rfl) (fun _ _ _ h => h) (Or.inl ⟨by rfl, ?_⟩) ?_ ?_
  rotate_left
  · intro w'
    go_simp
    with_reducible rfl
  rotate_left
  · simp only [Act.put, List.setIfInBounds_toArray, List.set_cons_zero, List.set_cons_succ, i64_w, i32_w]
    rfl
  refine done_ (by kernel_rfl) ?_
  go_wp2_with fail
  go_ret
  exact ⟨rfl, R1.out, R2.out, R3.out⟩
set_option maxHeartbeats 4000000 in
set_option maxRecDepth 100000 in
theorem speek_T (gh gg gp gc gm gl gs g3 : Nat) (G : GSt) (sv : Value) (ws : List Int) (pk ps pp : Int) (w0 w : World) (hI : ShadeIs w0 w gh gg gp gc gm gl gs g3 G sv ws) : Calls Try.prog 64 #[.pointer (some ⟨gh, 0, none⟩), .agg #[.int .i64 pk, .int .i64 ps, .int .i64 pp]] w fun e w' => e = .returned (.int .u64 (getw G.p.m (pk, ps, pp))) ∧ Below w.heap.size w w' := by
  have hu23 := Try.underlying23
  have JI := Aside0.mk (hI.alloc (.cells #[.int .i64 pk, .int .i64 ps, .int .i64 pp] 23)).drew
  have B0 := Aside0.mk (below_drew (below_alloc (Below.refl w.heap.size w) (.cells #[.int .i64 pk, .int .i64 ps, .int .i64 pp] 23)))
  have X0 := Aside0.mk (blk_drew (blk_new w (.cells #[.int .i64 pk, .int .i64 ps, .int .i64 pp] 23)))
  clear hI
  go_enter Try.func64, Try.ntmps64
  go_wp2_with fail
  refine start_ (n := 5) (S := fun w' => w'.cell? ⟨w.heap.size, 0, none⟩ = some (.int .i64 pk) ∧ w'.cell? ⟨w.heap.size, 1, none⟩ = some (.int .i64 ps) ∧ w'.cell? ⟨w.heap.size, 2, none⟩ = some (.int .i64 pp)) (ds := [3]) #[false, false, false, false, false] (by kernel_rfl) rfl rfl ⟨(blk_cell X0.out 0).trans rfl, (blk_cell X0.out 1).trans rfl, (blk_cell X0.out 2).trans rfl⟩ (fun hHeld => ?_)
  refine pure_ (i := 0) (N := some 5) (v := ?_) (a' := ?_) #[true, false, false, false, false] rfl rfl (by kernel_rfl) (fun _ _ _ h => h) (Or.inl ⟨by rfl, ?_⟩) ?_ ?_
  rotate_left
  · intro w'
    go_simp
    with_reducible rfl
  rotate_left
  · simp only [Act.put, List.setIfInBounds_toArray, List.set_cons_zero, List.set_cons_succ, i64_w, i32_w]
    rfl
  refine take_ (i := 2) (N := some 7) (v := ?_) (a' := ?_) #[true, false, true, false, false] rfl rfl (by kernel_rfl) (fun _ _ _ h => h) (Or.inl ⟨by rfl, ?_⟩) hHeld ?_ ?_
  rotate_left
  · rintro w' ⟨s0, s1, s2⟩
    go_simp
    with_reducible rfl
  rotate_left
  · simp only [Act.put, List.setIfInBounds_toArray, List.set_cons_zero, List.set_cons_succ, i64_w, i32_w]
    rfl
  refine one_ (i := 1) (N := some 6) #[true, true, true, false, false] rfl rfl (by kernel_rfl) (by decide) (fun K hK => ?_)
  refine goes_ Try.func105 (by kernel_rfl) rfl #[.pointer (some ⟨gh, 0, none⟩)] (by rfl) rfl rfl (by simp only [List.map_toArray, List.map_cons, List.map_nil]; rfl) ?_
  with_reducible refine (sunder_T gh gg gp gc gm gl gs g3 G sv ws w0 _ JI.out).mono ?_
  rintro e w5 ⟨rfl, rfl⟩
  refine ⟨_, rfl, ?_⟩
  refine hK.out _ _ ⟨(blk_cell X0.out 0).trans rfl, (blk_cell X0.out 1).trans rfl, (blk_cell X0.out 2).trans rfl⟩ (fun hHeld => ?_)
  clear hK K
  refine norm_ (a' := ?_) ?_ ?_
  rotate_left
  · show Act.put _ (some 6) _ = _
    simp only [Act.put, List.setIfInBounds_toArray, List.set_cons_zero, List.set_cons_succ, i64_w, i32_w]
    rfl
  refine last_ (i := 3) (N := some 8) #[true, true, true, true, false] rfl rfl (by kernel_rfl) (by decide) (fun K hK => ?_)
  refine goes_ Try.func49 (by kernel_rfl) rfl #[.pointer (some ⟨gg, 0, none⟩), Value.agg #[.int .i64 pk, .int .i64 ps, .int .i64 pp]] (by rfl) rfl rfl (by simp only [List.map_toArray, List.map_cons, List.map_nil]; rfl) ?_
  with_reducible refine (gpeek_T gg gp gc gm gl gs g3 G pk ps pp w0 _ JI.out.ghost).mono ?_
  rintro e w6 ⟨rfl, hb⟩
  refine ⟨_, rfl, ?_⟩
  have R2 := Aside0.mk (below_step B0.out hb)
  clear hb
  refine hK.out _ _ ?_
  clear hK K
  refine norm_ (a' := ?_) ?_ ?_
  rotate_left
  · show Act.put _ (some 8) _ = _
    simp only [Act.put, List.setIfInBounds_toArray, List.set_cons_zero, List.set_cons_succ, i64_w, i32_w]
    rfl
  refine pure_ (i := 4) (N := some 4) (v := ?_) (a' := ?_) #[true, true, true, true, true] rfl rfl (by kernel_rfl) (fun _ _ _ h => h) (Or.inl ⟨by rfl, ?_⟩) ?_ ?_
  rotate_left
  · intro w'
    go_simp
    with_reducible rfl
  rotate_left
  · simp only [Act.put, List.setIfInBounds_toArray, List.set_cons_zero, List.set_cons_succ, i64_w, i32_w]
    rfl
  refine done_ (by kernel_rfl) ?_
  go_wp2_with fail
  go_ret
  exact ⟨rfl, R2.out⟩
set_option maxHeartbeats 4000000 in
set_option maxRecDepth 100000 in
theorem sborn_T (gh gg gp gc gm gl gs g3 : Nat) (G : GSt) (sv : Value) (ws : List Int) (slot : Int) (w0 w : World) (hI : ShadeIs w0 w gh gg gp gc gm gl gs g3 G sv ws) (hB : Below w0.heap.size w0 w) (hl : G.row.length ≤ 100000) :
    Calls Try.prog 63 #[.pointer (some ⟨gh, 0, none⟩), .int .i64 slot] w fun e w' => e = .returned (.int .i64 (bornId G.row slot)) ∧ ShadeIs w0 w' gh gg gp gc gm gl gs g3 (gbornG G slot) sv ws ∧ Below w0.heap.size w0 w' ∧ Fr (RowS gs g3 (rowAt w gs)) w w' ∧ (rowAt w' gs = rowAt w gs ∨ ∃ b, rowAt w' gs = some b ∧ w.heap.size ≤ b) := by
  have HI := Aside0.mk hI
  have HB := Aside0.mk hB
  have HL := Aside0.mk hl
  clear hI hB hl
  go_enter Try.func63, Try.ntmps63
  go_wp2_with fail
  refine (sunder_T gh gg gp gc gm gl gs g3 G sv ws w0 _ HI.out).mono ?_
  rintro e w1 ⟨rfl, rfl⟩
  go_wp2_with fail
  refine (gborn_U gg gp gc gm gl gs g3 G slot w0 _ HI.out.ghost HB.out HL.out).mono ?_
  rintro e w2 ⟨rfl, h1, h2, h3, h4⟩
  have R1 := Aside0.mk (HI.out.turnB h1 h3)
  have R2 := Aside0.mk h2
  have R3 := Aside0.mk h3
  have R4 := Aside0.mk h4
  clear h1 h2 h3 h4
  go_wp2_with fail
  go_ret
  exact ⟨rfl, R1.out, R2.out, R3.out, R4.out⟩
set_option maxHeartbeats 4000000 in
set_option maxRecDepth 100000 in
theorem scells_T (gh gg gp gc gm gl gs g3 : Nat) (G : GSt) (sv : Value) (ws : List Int) (w0 w : World) (hI : ShadeIs w0 w gh gg gp gc gm gl gs g3 G sv ws) :
    Calls Try.prog 66 #[.pointer (some ⟨gh, 0, none⟩)] w fun e w' => ∃ gd gn, e = .returned (.pointer (some ⟨gd, 0, none⟩)) ∧ CellsIs w w' gd gn (copyC G.p) ∧ Below w.heap.size w w' := by
  have HI := Aside0.mk hI
  clear hI
  go_enter Try.func66, Try.ntmps66
  go_wp2_with fail
  refine (sunder_T gh gg gp gc gm gl gs g3 G sv ws w0 w HI.out).mono ?_
  rintro e w1 ⟨rfl, rfl⟩
  go_wp2_with fail
  refine (gcells_T gg gp gc gm gl gs g3 G w0 _ HI.out.ghost).mono ?_
  rintro e w2 ⟨gd, gn, rfl, h1, h2⟩
  have R1 := Aside0.mk h1
  have R2 := Aside0.mk h2
  clear h1 h2
  go_wp2_with fail
  go_ret
  exact ⟨gd, gn, rfl, R1.out, R2.out⟩
set_option maxHeartbeats 4000000 in
set_option maxRecDepth 100000 in
theorem scount_T (gh gg gp gc gm gl gs g3 : Nat) (G : GSt) (sv : Value) (ws : List Int) (w0 w : World) (hI : ShadeIs w0 w gh gg gp gc gm gl gs g3 G sv ws) : Calls Try.prog 65 #[.pointer (some ⟨gh, 0, none⟩)] w fun e w' => e = .returned (.agg #[.int .i64 G.p.c1, .int .i64 G.p.c2, .int .i64 G.p.c3, .int .i64 G.p.c4, .int .i64 G.p.c5]) ∧ Below w.heap.size w w' := by
  have hu38 := Try.underlying38
  have JI := Aside0.mk (hI.alloc (.cells #[.int .i64 0, .int .i64 0, .int .i64 0, .int .i64 0, .int .i64 0] 38))
  have X0 := Aside0.mk (blk_new w (.cells #[.int .i64 0, .int .i64 0, .int .i64 0, .int .i64 0, .int .i64 0] 38))
  clear hI
  go_enter Try.func65, Try.ntmps65
  go_wp2_with fail
  refine (sunder_T gh gg gp gc gm gl gs g3 G sv ws w0 _ JI.out).mono ?_
  rintro e w1 ⟨rfl, rfl⟩
  go_wp2_with fail
  refine (gcount_T gg gp gc gm gl gs g3 G w0 _ JI.out.ghost).mono ?_
  rintro e w2 ⟨rfl, hb⟩
  have Y0 := Aside0.mk (blk_below X0.out hb)
  have B := Aside0.mk (below_step (below_alloc (Below.refl w.heap.size w) (.cells #[.int .i64 0, .int .i64 0, .int .i64 0, .int .i64 0, .int .i64 0] 38)) hb)
  clear hb
  have z0 : w2.cell? ⟨w.heap.size, 0, none⟩ = some (.int .i64 0) := (blk_cell Y0.out 0).trans rfl
  have z1 : w2.cell? ⟨w.heap.size, 1, none⟩ = some (.int .i64 0) := (blk_cell Y0.out 1).trans rfl
  have z2 : w2.cell? ⟨w.heap.size, 2, none⟩ = some (.int .i64 0) := (blk_cell Y0.out 2).trans rfl
  have z3 : w2.cell? ⟨w.heap.size, 3, none⟩ = some (.int .i64 0) := (blk_cell Y0.out 3).trans rfl
  have z4 : w2.cell? ⟨w.heap.size, 4, none⟩ = some (.int .i64 0) := (blk_cell Y0.out 4).trans rfl
  have y0 : w2.frozen? ⟨w.heap.size, 0, none⟩ = false := blk_frozen Y0.out 0
  have y1 : w2.frozen? ⟨w.heap.size, 1, none⟩ = false := blk_frozen Y0.out 1
  have y2 : w2.frozen? ⟨w.heap.size, 2, none⟩ = false := blk_frozen Y0.out 2
  have y3 : w2.frozen? ⟨w.heap.size, 3, none⟩ = false := blk_frozen Y0.out 3
  have y4 : w2.frozen? ⟨w.heap.size, 4, none⟩ = false := blk_frozen Y0.out 4
  go_wp2_with fail
  refine bodyPost_ret (results_cell_row rfl _ _ w.heap.size 38 #[.int .i64 G.p.c1, .int .i64 G.p.c2, .int .i64 G.p.c3, .int .i64 G.p.c4, .int .i64 G.p.c5] (0, 0) _ rfl (blk_put (blk_put (blk_put (blk_put (blk_put Y0.out 0 (.int .i64 G.p.c1) rfl) 1 (.int .i64 G.p.c2) rfl) 2 (.int .i64 G.p.c3) rfl) 3 (.int .i64 G.p.c4) rfl) 4 (.int .i64 G.p.c5) rfl) Try.underlying38 rfl (by kernel_rfl)) rfl ?_
  exact ⟨rfl, (((((B.out.setCell (p := ⟨w.heap.size, 0, none⟩) (Nat.le_refl _) _).setCell (p := ⟨w.heap.size, 1, none⟩) (Nat.le_refl _) _).setCell (p := ⟨w.heap.size, 2, none⟩) (Nat.le_refl _) _).setCell (p := ⟨w.heap.size, 3, none⟩) (Nat.le_refl _) _).setCell (p := ⟨w.heap.size, 4, none⟩) (Nat.le_refl _) _)⟩
set_option maxHeartbeats 4000000 in
set_option maxRecDepth 100000 in
theorem snew_T (A_ : Option Addr) (c_ : Nat) (ws : List Int) (w : World) (hr : Kd.C (Kd.int .u64) w A_ ws.length ws) (hc : ws.length ≤ c_) (hl : ws.length ≤ 17592186044416) :
    Calls Try.prog 55 #[.slice A_ ws.length c_] w fun e w' => ∃ gh gg gp gc gm gl gs g3 sv, e = .returned (.pointer (some ⟨gh, 0, none⟩)) ∧ ShadeIs w w' gh gg gp gc gm gl gs g3 G0 sv ws ∧ Below w.heap.size w w' := by
  have hu134 := Try.underlying134
  have HR := Aside0.mk hr
  have HC := Aside0.mk hc
  have HF := Aside0.mk (show slices_Clone_word.f ws = some ws from if_pos hl)
  clear hr hc hl
  go_enter Try.func55, Try.ntmps55
  go_wp2_with fail
  refine (gnew_T w).mono ?_
  rintro e w1 ⟨gg, gp, gc, gm, gl, gs, g3, rfl, h1, h2⟩
  have I1 := Aside0.mk h1
  have B1 := Aside0.mk h2
  clear h1 h2
  go_wp2_with fail
  refine (slices_Clone_word.calls A_ c_ ws ws w1 (Kd.C_below HR.out B1.out) HC.out HF.out).mono ?_
  rintro e w2 ⟨v_, rfl, h1, h2⟩
  obtain ⟨Aw, cw, rfl, _, _⟩ := Kd.R_reads h1
  have I2 := Aside0.mk ((I1.out.below h2).alloc (.cells #[.pointer (some ⟨gg, 0, none⟩), .slice Aw ws.length cw] 134))
  have B2 := Aside0.mk (below_alloc (below_step B1.out h2) (.cells #[.pointer (some ⟨gg, 0, none⟩), .slice Aw ws.length cw] 134))
  have R2 := Aside0.mk (Kd.R_below (Kd.R_lower h1 B1.out.size) (below_alloc (Below.refl _ _) (.cells #[.pointer (some ⟨gg, 0, none⟩), .slice Aw ws.length cw] 134)))
  have SZ := Aside0.mk (below_step B1.out h2).size
  clear h1 h2
  go_wp2_with fail
  go_ret
  exact ⟨_, gg, gp, gc, gm, gl, gs, g3, _, rfl, ⟨blk_new _ _, I2.out, R2.out, SZ.out⟩, B2.out⟩
end Go.Proofs.Ytlpnggapndokeaa.PIdealKeeps

