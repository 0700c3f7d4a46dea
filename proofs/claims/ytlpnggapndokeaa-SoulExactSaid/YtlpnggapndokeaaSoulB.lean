/-
Who slots are, its reference, and awake of layer 6.
-/
import Derived.Test.YtlpnggapndokeaaSoulA
import Derived.Test.YtlpnggapndokeaaShelfA
namespace Go.Proofs.Ytlpnggapndokeaa.PIdealKeeps
open Go Go.RowKit Go.Maps Go.Sort Go.Shelf Go.Proofs.YtlpnggapndokeaaW.PrintWords Go.Proofs.YtlpnggapndokeaaW.PrintLast Go.Proofs.YtlpnggapndokeaaW.PrintMore Go.Proofs.Ytlpnggapndokeaa.M
set_option linter.unusedVariables false
/-- slices.Sort's two contracts at this dump. -/
theorem sortsA (m : Nat) : AnyZI.SortsIn Try.prog Try.sortedA_ren Fence.wide m :=
  ⟨fun blk off cap ss W hH hblk hsz => callsIn_wide.2 (AnyM.slices_Sort_int Try.sortA blk off cap ss W hH hblk hsz),
   fun p cap W => callsIn_wide.2 (AnyM.slices_Sort_int_none Try.sortA p cap W)⟩
theorem perm_insert {H : Type} (x : Lit × DataW H) : ∀ l : List (Lit × DataW H), (DataW.insert x l).Perm (x :: l)
  | [] => List.Perm.refl _
  | y :: r => by
    unfold DataW.insert
    split
    · exact List.Perm.refl _
    · exact ((perm_insert x r).cons y).trans (List.Perm.swap x y r)
theorem perm_foldr {H : Type} : ∀ l : List (Lit × DataW H), (l.foldr DataW.insert []).Perm l
  | [] => List.Perm.refl _
  | x :: r => (perm_insert x _).trans ((perm_foldr r).cons x)
def anyR (_ : Value) : Option (DataW Unit × List MemPlace) := some (.nil, [])
theorem rg_key {x : MapEntry} {a : Int} (h : x.key = eI a) (hw : (Lit.int .i64 a).wf = true) : Go.WideElems.rd Try.prog 3 anyR x = some ((Lit.int .i64 a), DataW.nil) := by
  unfold Go.WideElems.rd anyR
  rw [h]
  simp [keyOf, Try.underlying3, mapKey, hw]
def valI : Value → Int
  | .int _ a => a
  | _ => 0
set_option maxRecDepth 100000 in
theorem soul_owns {w : World} {g : Nat} {now : List (Int × Int)} (h : MapIs eI eI w g now) (hw : ∀ p ∈ now, (Lit.int .i64 p.1).wf = true) (hl : now.length ≤ 100000) : ∃ D0 : DataW Unit, w.ownsMap Try.prog 3 anyR g now.length D0 ∧ (intKeys D0).Perm (now.map (·.1)) ∧ Maps.size D0 = now.length := by
  obtain ⟨es, c, hb, he, hst⟩ := h
  have hlen : es.size = now.length := by have := congrArg List.length he.1; simpa using this
  have hkey : ∀ x ∈ es.toList, ∃ a, x.key = eI a ∧ (Lit.int .i64 a).wf = true := by
    intro x hx
    have hm : x.key ∈ es.toList.map (·.key) := List.mem_map.2 ⟨x, hx, rfl⟩
    rw [he.1, List.mem_map] at hm
    obtain ⟨p, hp, e⟩ := hm
    exact ⟨p.1, e.symm, hw p hp⟩
  refine ⟨_, ⟨es, c, hb, ⟨by rw [hlen]; simp only [maxLen]; omega, hst, fun x hx => ?_⟩, Nat.le_of_eq hlen, rfl⟩, ?_, ?_⟩
  · obtain ⟨a, ha, haw⟩ := hkey x hx
    exact ⟨_, rg_key ha haw⟩
  · show (List.map (fun p : Lit × DataW Unit => _root_.Go.intOf p.1) _).Perm _
    refine ((perm_foldr (es.toList.map (Go.WideElems.rg Try.prog 3 anyR))).map _).trans (List.Perm.of_eq ?_)
    rw [List.map_map]
    have h1 : es.toList.map ((fun p : Lit × DataW Unit => _root_.Go.intOf p.1) ∘ Go.WideElems.rg Try.prog 3 anyR) = es.toList.map (fun x => valI x.key) := by
      refine List.map_congr_left (fun x hx => ?_)
      obtain ⟨a, ha, haw⟩ := hkey x hx
      have e := Go.WideElems.rg_of (rg_key ha haw)
      have e2 : valI x.key = a := by rw [ha]; rfl
      have e3 := congrArg (fun z : Lit × DataW Unit => _root_.Go.intOf z.1) e
      exact Eq.trans (b := a) e3 e2.symm
    rw [h1, show (fun x : MapEntry => valI x.key) = valI ∘ (fun x : MapEntry => x.key) from rfl, ← List.map_map, he.1, List.map_map]
    exact List.map_congr_left (fun p _ => rfl)
  · show (List.foldr DataW.insert [] _).length = _
    rw [(perm_foldr _).length_eq, List.length_map]
    simpa using hlen
set_option maxHeartbeats 2000000 in
set_option maxRecDepth 100000 in
theorem soulSlots_T (gs g3 : Nat) (v : Value) (now : List (Int × Int)) (row : List Int) (w0 w : World) (hI : SoulIs w0 w gs g3 v now row) (hw : ∀ p ∈ now, (Lit.int .i64 p.1).wf = true) (hl : now.length ≤ 100000) :
    Calls Try.prog 77 #[.pointer (some ⟨gs, 0, none⟩)] w fun e w' => ∃ u, e = .returned u ∧ (Kd.int .i64).R 3 w' w.heap.size (fun _ => True) u ((now.map (·.1)).mergeSort leI) ∧ Below w.heap.size w w' := by
  have hu114 := Try.underlying114
  have c0 : w.cell? ⟨gs, 0, none⟩ = some (.map (some g3)) := (blk_cell hI.blk 0).trans rfl
  obtain ⟨D0, hown, hperm, hsz⟩ := soul_owns hI.map hw hl
  clear hI
  refine (callsIn_wide (n := 6)).1 ?_
  have hbl := hown.lt
  have hmax : Maps.size D0 ≤ maxLen := by rw [hsz]; simp only [maxLen]; omega
  have hbytes : Maps.size D0 * 8 ≤ 140737488355328 := by rw [hsz]; omega
  have hseq : SeqGives Fence.wide 2 Try.prog 115 #[.pointer (some ⟨w.heap.size, 0, none⟩)] encZ (fun ss => ss.Perm (intKeys D0)) (Maps.size D0) (w.alloc (.cells #[.map (some g3)] 112)) :=
    AnyZI.keys_gives (ρ := Try.keysA_ren) { Try.keysA with } Fence.wide _ trivial rfl (by omega) w.heap.size g3 now.length D0 _ (by simp) (by simp) (by
      obtain ⟨es, clock, hb, Ft, hs, hD⟩ := hown
      exact ⟨es, clock, (Below.heap_alloc _ _ g3 hbl).trans hb, Ft, hs, hD⟩)
  have cK : ∀ mb W, CallsIn Fence.wide 5 Try.prog 108 #[.map mb] W fun e w' => e = .returned (.func (.func 115) #[] #[.pointer (some ⟨W.heap.size, 0, none⟩)]) ∧ w' = W.alloc (.cells #[.map mb] 112) := fun mb W => AnyZI.keys_in Try.keysA Fence.wide 5 trivial rfl mb W
  have cS := AnyZI.sorted_in Try.sortedA Fence.wide 5 trivial trivial trivial trivial rfl (by omega) (sortsA _) (enters_of Try.func114 (by kernel_rfl) rfl) 115 #[.pointer (some ⟨w.heap.size, 0, none⟩)] trivial (enters_of Try.func115 (by kernel_rfl) rfl) _ _ hmax hbytes _ hseq
  change CallsIn _ _ Try.prog 107 _ _ _ at cS
  have hfK : Fence.wide.fn 108 := trivial
  have hfS : Fence.wide.fn 107 := trivial
  refine callsIn_of_wp Try.func77 rfl trivial ?_ rfl
  simp only [Try.ntmps77, List.size_toArray, List.length_cons, List.length_nil, Nat.reduceAdd, Nat.reduceSub, Array.replicate_succ, Array.replicate_zero, List.push_toArray, List.append_toArray, List.nil_append, List.cons_append]
  gi_wp2_with (first
    | (gi_at_call 108; refine (cK _ _).mono ?_; rintro e w' ⟨rfl, rfl⟩)
    | (gi_at_call 107; refine cS.mono ?_; rintro e w' ⟨v, ss, rfl, hS, hrow, hnil, hb⟩))
  go_ret
  have e2 : ss.mergeSort leI = (now.map (·.1)).mergeSort leI := mergeSort_of_perm_i (hS.trans hperm)
  refine ⟨v, rfl, ?_, ((Below.refl _ w).alloc (Nat.le_refl _) _).trans (hb.mono (by simp))⟩
  rw [← e2]
  refine Kd.R_of_own (by rw [List.length_mergeSort]; exact ownsRow_base_a hrow (by simp)) (fun _ _ => trivial)
end Go.Proofs.Ytlpnggapndokeaa.PIdealKeeps

namespace Go.Proofs.Ytlpnggapndokeaa.PIdealKeeps
open Go Go.RowKit Go.Proofs.YtlpnggapndokeaaW.PrintWords Go.Proofs.YtlpnggapndokeaaW.PrintLast Go.Proofs.YtlpnggapndokeaaW.PrintMore Go.Proofs.Ytlpnggapndokeaa.M
attribute [local go_sem] max2_int min2_int max_two min_two max_three min_three max_four min_four
set_option linter.unusedVariables false
set_option linter.unusedSimpArgs false
def isR (now : List (Int × Int)) (slot id : Int) : Bool := (id != 0) && ((get now slot).getD 0 == id)
set_option maxHeartbeats 4000000 in
set_option maxRecDepth 100000 in
theorem soulIs_T (gs g3 : Nat) (v : Value) (now : List (Int × Int)) (row : List Int) (slot id : Int) (w0 w : World) (hI : SoulIs w0 w gs g3 v now row) :
    Calls Try.prog 72 #[.pointer (some ⟨gs, 0, none⟩), .agg #[.int .i64 slot, .int .i64 id]] w fun e w' => e = .returned (.bool (isR now slot id)) ∧ Below w.heap.size w w' := by
  have hu95 := Try.underlying95
  have JI := Aside0.mk (hI.alloc (.cells #[.int .i64 slot, .int .i64 id] 95)).drew
  have B0 := Aside0.mk (below_drew (below_alloc (Below.refl w.heap.size w) (.cells #[.int .i64 slot, .int .i64 id] 95)))
  have X0 := Aside0.mk (blk_drew (blk_new w (.cells #[.int .i64 slot, .int .i64 id] 95)))
  clear hI
  obtain ⟨nw, hnw⟩ : ∃ n, (get now slot).getD 0 = n := ⟨_, rfl⟩
  have HN := Aside0.mk hnw
  by_cases h0 : id = 0
  · subst h0
    have E := Aside0.mk (show isR now slot 0 = false from rfl)
    clear hnw
    go_enter Try.func72, Try.ntmps72
    go_wp2_with fail
    refine start_ (n := 13) (S := fun w' => w'.cell? ⟨w.heap.size, 0, none⟩ = some (.int .i64 slot) ∧ w'.cell? ⟨w.heap.size, 1, none⟩ = some (.int .i64 0)) (ds := []) (lb 13 0) (by kernel_rfl) rfl rfl ⟨(blk_cell X0.out 0).trans rfl, (blk_cell X0.out 1).trans rfl⟩ (fun hHeld => ?_)
    refine pS (v := ?_) (a' := ?_) 0 (some 5) (lb 13 1) rfl rfl (by kernel_rfl) (fun _ _ _ h => h) (by rfl) ?_ ?_ ?_; rotate_left; (intro w'; go_simp; with_reducible rfl); rotate_left; (simp only [Act.put, List.setIfInBounds_toArray, List.set_cons_zero, List.set_cons_succ, i64_w, i32_w]; rfl)
    refine tS (v := ?_) (a' := ?_) 1 (some 6) (lb 13 3) rfl rfl (by kernel_rfl) (fun _ _ _ h => h) hHeld (by rfl) ?_ ?_ ?_; rotate_left; (rintro w' ⟨s0, s1⟩; go_simp; with_reducible rfl); rotate_left; (simp only [Act.put, List.setIfInBounds_toArray, List.set_cons_zero, List.set_cons_succ, i64_w, i32_w]; rfl)
    refine pS (v := ?_) (a' := ?_) 2 (some 7) (lb 13 7) rfl rfl (by kernel_rfl) (fun _ _ _ h => h) (by rfl) ?_ ?_ ?_; rotate_left; (intro w'; go_simp; with_reducible rfl); rotate_left; (simp only [Act.put, List.setIfInBounds_toArray, List.set_cons_zero, List.set_cons_succ, i64_w, i32_w]; rfl)
    refine pS (v := ?_) (a' := ?_) 3 (some 8) (lb 13 15) rfl rfl (by kernel_rfl) (fun _ _ _ h => h) (by rfl) ?_ ?_ ?_; rotate_left; (intro w'; go_simp; with_reducible rfl); rotate_left; (simp only [Act.put, List.setIfInBounds_toArray, List.set_cons_zero, List.set_cons_succ, i64_w, i32_w]; rfl)
    refine pO (a' := ?_) 4 (some 9) (lb 13 31) rfl rfl (by kernel_rfl) (fun _ _ _ h => h) (by rfl) ?_ ?_; rotate_left; (simp only [Act.put, List.setIfInBounds_toArray, List.set_cons_zero, List.set_cons_succ, i64_w, i32_w]; rfl)
    refine pO (a' := ?_) 5 (some 10) (lb 13 63) rfl rfl (by kernel_rfl) (fun _ _ _ h => h) (by rfl) ?_ ?_; rotate_left; (simp only [Act.put, List.setIfInBounds_toArray, List.set_cons_zero, List.set_cons_succ, i64_w, i32_w]; rfl)
    refine pO (a' := ?_) 6 (some 11) (lb 13 127) rfl rfl (by kernel_rfl) (fun _ _ _ h => h) (by rfl) ?_ ?_; rotate_left; (simp only [Act.put, List.setIfInBounds_toArray, List.set_cons_zero, List.set_cons_succ, i64_w, i32_w]; rfl)
    refine pO (a' := ?_) 7 (some 12) (lb 13 255) rfl rfl (by kernel_rfl) (fun _ _ _ h => h) (by rfl) ?_ ?_; rotate_left; (simp only [Act.put, List.setIfInBounds_toArray, List.set_cons_zero, List.set_cons_succ, i64_w, i32_w]; rfl)
    refine pO (a' := ?_) 8 (some 13) (lb 13 511) rfl rfl (by kernel_rfl) (fun _ _ _ h => h) (by rfl) ?_ ?_; rotate_left; (simp only [Act.put, List.setIfInBounds_toArray, List.set_cons_zero, List.set_cons_succ, i64_w, i32_w]; rfl)
    refine pO (a' := ?_) 9 (some 14) (lb 13 1023) rfl rfl (by kernel_rfl) (fun _ _ _ h => h) (by rfl) ?_ ?_; rotate_left; (simp only [Act.put, List.setIfInBounds_toArray, List.set_cons_zero, List.set_cons_succ, i64_w, i32_w]; rfl)
    refine pO (a' := ?_) 10 (some 15) (lb 13 2047) rfl rfl (by kernel_rfl) (fun _ _ _ h => h) (by rfl) ?_ ?_; rotate_left; (simp only [Act.put, List.setIfInBounds_toArray, List.set_cons_zero, List.set_cons_succ, i64_w, i32_w]; rfl)
    refine pS (v := ?_) (a' := ?_) 11 (some 16) (lb 13 4095) rfl rfl (by kernel_rfl) (fun _ _ _ h => h) (by rfl) ?_ ?_ ?_; rotate_left; (intro w'; go_simp; with_reducible rfl); rotate_left; (simp only [Act.put, List.setIfInBounds_toArray, List.set_cons_zero, List.set_cons_succ, i64_w, i32_w]; rfl)
    refine pS (v := ?_) (a' := ?_) 12 (some 4) (lb 13 8191) rfl rfl (by kernel_rfl) (fun _ _ _ h => h) (by rfl) ?_ ?_ ?_; rotate_left; (intro w'; go_simp; with_reducible rfl); rotate_left; (simp only [Act.put, List.setIfInBounds_toArray, List.set_cons_zero, List.set_cons_succ, i64_w, i32_w]; rfl)
    refine done_ (by kernel_rfl) ?_
    go_wp2_with fail
    go_ret
    rw [E.out]
    exact ⟨rfl, B0.out⟩
  · have t1 : (id != 0) = true := bne_iff_ne.mpr h0
    have E := Aside0.mk (show isR now slot id = (nw == id) by unfold isR; rw [hnw, t1]; rfl)
    clear h0 hnw
    go_enter Try.func72, Try.ntmps72
    go_wp2_with fail
    refine start_ (n := 13) (S := fun w' => w'.cell? ⟨w.heap.size, 0, none⟩ = some (.int .i64 slot) ∧ w'.cell? ⟨w.heap.size, 1, none⟩ = some (.int .i64 id)) (ds := []) (lb 13 0) (by kernel_rfl) rfl rfl ⟨(blk_cell X0.out 0).trans rfl, (blk_cell X0.out 1).trans rfl⟩ (fun hHeld => ?_)
    refine pS (v := ?_) (a' := ?_) 0 (some 5) (lb 13 1) rfl rfl (by kernel_rfl) (fun _ _ _ h => h) (by rfl) ?_ ?_ ?_; rotate_left; (intro w'; go_simp; with_reducible rfl); rotate_left; (simp only [Act.put, List.setIfInBounds_toArray, List.set_cons_zero, List.set_cons_succ, i64_w, i32_w]; rfl)
    refine tS (v := ?_) (a' := ?_) 1 (some 6) (lb 13 3) rfl rfl (by kernel_rfl) (fun _ _ _ h => h) hHeld (by rfl) ?_ ?_ ?_; rotate_left; (rintro w' ⟨s0, s1⟩; go_simp; with_reducible rfl); rotate_left; (simp only [Act.put, List.setIfInBounds_toArray, List.set_cons_zero, List.set_cons_succ, i64_w, i32_w]; rfl)
    refine pS (v := ?_) (a' := ?_) 2 (some 7) (lb 13 7) rfl rfl (by kernel_rfl) (fun _ _ _ h => h) (by rfl) ?_ ?_ ?_; rotate_left; (intro w'; go_simp; with_reducible rfl); rotate_left; (simp only [Act.put, List.setIfInBounds_toArray, List.set_cons_zero, List.set_cons_succ, i64_w, i32_w]; rfl)
    refine pS (v := ?_) (a' := ?_) 3 (some 8) (lb 13 15) rfl rfl (by kernel_rfl) (fun _ _ _ h => h) (by rfl) ?_ ?_ ?_; rotate_left; (intro w'; go_simp; with_reducible rfl); rotate_left; (simp only [Act.put, List.setIfInBounds_toArray, List.set_cons_zero, List.set_cons_succ, i64_w, i32_w]; rfl)
    refine pS (v := ?_) (a' := ?_) 4 (some 9) (lb 13 31) rfl rfl (by kernel_rfl) (fun _ _ _ h => h) (by rfl) ?_ ?_ ?_; rotate_left; (intro w'; go_simp; with_reducible rfl); rotate_left; (simp only [Act.put, List.setIfInBounds_toArray, List.set_cons_zero, List.set_cons_succ, i64_w, i32_w]; rfl)
    refine pS (v := ?_) (a' := ?_) 5 (some 10) (lb 13 63) rfl rfl (by kernel_rfl) (fun _ _ _ h => h) (by rfl) ?_ ?_ ?_; rotate_left; (intro w'; go_simp; with_reducible rfl); rotate_left; (simp only [Act.put, List.setIfInBounds_toArray, List.set_cons_zero, List.set_cons_succ, i64_w, i32_w]; rfl)
    refine pS (v := ?_) (a' := ?_) 8 (some 13) (lb 13 319) rfl rfl (by kernel_rfl) (fun _ _ _ h => h) (by rfl) ?_ ?_ ?_; rotate_left; (intro w'; go_simp; with_reducible rfl); rotate_left; (simp only [Act.put, List.setIfInBounds_toArray, List.set_cons_zero, List.set_cons_succ, i64_w, i32_w]; rfl)
    refine tS (v := ?_) (a' := ?_) 6 (some 11) (lb 13 383) rfl rfl (by kernel_rfl) (fun _ _ _ h => h) hHeld (by rfl) ?_ ?_ ?_; rotate_left; (rintro w' ⟨s0, s1⟩; go_simp; with_reducible rfl); rotate_left; (simp only [Act.put, List.setIfInBounds_toArray, List.set_cons_zero, List.set_cons_succ, i64_w, i32_w]; rfl)
    refine tS (v := ?_) (a' := ?_) 9 (some 14) (lb 13 895) rfl rfl (by kernel_rfl) (fun _ _ _ h => h) hHeld (by rfl) ?_ ?_ ?_; rotate_left; (rintro w' ⟨s0, s1⟩; go_simp; with_reducible rfl); rotate_left; (simp only [Act.put, List.setIfInBounds_toArray, List.set_cons_zero, List.set_cons_succ, i64_w, i32_w]; rfl)
    refine one_ (i := 7) (N := some 12) (lb 13 1023) rfl rfl (by kernel_rfl) (by decide) (fun K hK => ?_)
    refine goes_ Try.func41 (by kernel_rfl) rfl #[.pointer (some ⟨gs, 0, none⟩), .int .i64 slot] (by rfl) rfl rfl (by simp only [List.map_toArray, List.map_cons, List.map_nil]; rfl) ?_
    with_reducible refine (soulNow_T gs g3 v now row slot w0 _ JI.out).mono ?_
    rintro e w5 ⟨rfl, hb⟩
    refine ⟨_, rfl, ?_⟩
    rw [HN.out]
    have Y0 := Aside0.mk (blk_below X0.out hb)
    have B5 := Aside0.mk (below_step B0.out hb)
    clear hb
    refine hK.out _ _ ⟨(blk_cell Y0.out 0).trans rfl, (blk_cell Y0.out 1).trans rfl⟩ (fun hHeld => ?_)
    clear hK K
    refine norm_ (a' := ?_) ?_ ?_
    rotate_left
    · show Act.put _ (some 12) _ = _
      simp only [Act.put, List.setIfInBounds_toArray, List.set_cons_zero, List.set_cons_succ, i64_w, i32_w]
      rfl
    refine pS (v := ?_) (a' := ?_) 10 (some 15) (lb 13 2047) rfl rfl (by kernel_rfl) (fun _ _ _ h => h) (by rfl) ?_ ?_ ?_; rotate_left; (intro w'; go_simp; with_reducible rfl); rotate_left; (simp only [Act.put, List.setIfInBounds_toArray, List.set_cons_zero, List.set_cons_succ, i64_w, i32_w]; rfl)
    refine pS (v := ?_) (a' := ?_) 11 (some 16) (lb 13 4095) rfl rfl (by kernel_rfl) (fun _ _ _ h => h) (by rfl) ?_ ?_ ?_; rotate_left; (intro w'; go_simp; with_reducible rfl); rotate_left; (simp only [Act.put, List.setIfInBounds_toArray, List.set_cons_zero, List.set_cons_succ, i64_w, i32_w]; rfl)
    refine pS (v := ?_) (a' := ?_) 12 (some 4) (lb 13 8191) rfl rfl (by kernel_rfl) (fun _ _ _ h => h) (by rfl) ?_ ?_ ?_; rotate_left; (intro w'; go_simp; with_reducible rfl); rotate_left; (simp only [Act.put, List.setIfInBounds_toArray, List.set_cons_zero, List.set_cons_succ, i64_w, i32_w]; rfl)
    refine done_ (by kernel_rfl) ?_
    go_wp2_with fail
    go_ret
    rw [E.out]
    exact ⟨rfl, B5.out⟩
set_option maxHeartbeats 4000000 in
set_option maxRecDepth 100000 in
theorem soulIsNil_T (slot id : Int) (w : World) :
    Calls Try.prog 72 #[.pointer none, .agg #[.int .i64 slot, .int .i64 id]] w fun e w' => e = .returned (.bool false) ∧ Below w.heap.size w w' := by
  have hu95 := Try.underlying95
  have B0 := Aside0.mk (below_drew (below_alloc (Below.refl w.heap.size w) (.cells #[.int .i64 slot, .int .i64 id] 95)))
  have X0 := Aside0.mk (blk_drew (blk_new w (.cells #[.int .i64 slot, .int .i64 id] 95)))
  by_cases h0 : id = 0
  · subst h0
    go_enter Try.func72, Try.ntmps72
    go_wp2_with fail
    refine start_ (n := 13) (S := fun w' => w'.cell? ⟨w.heap.size, 0, none⟩ = some (.int .i64 slot) ∧ w'.cell? ⟨w.heap.size, 1, none⟩ = some (.int .i64 0)) (ds := []) (lb 13 0) (by kernel_rfl) rfl rfl ⟨(blk_cell X0.out 0).trans rfl, (blk_cell X0.out 1).trans rfl⟩ (fun hHeld => ?_)
    refine pS (v := ?_) (a' := ?_) 0 (some 5) (lb 13 1) rfl rfl (by kernel_rfl) (fun _ _ _ h => h) (by rfl) ?_ ?_ ?_; rotate_left; (intro w'; go_simp; with_reducible rfl); rotate_left; (simp only [Act.put, List.setIfInBounds_toArray, List.set_cons_zero, List.set_cons_succ, i64_w, i32_w]; rfl)
    refine tS (v := ?_) (a' := ?_) 1 (some 6) (lb 13 3) rfl rfl (by kernel_rfl) (fun _ _ _ h => h) hHeld (by rfl) ?_ ?_ ?_; rotate_left; (rintro w' ⟨s0, s1⟩; go_simp; with_reducible rfl); rotate_left; (simp only [Act.put, List.setIfInBounds_toArray, List.set_cons_zero, List.set_cons_succ, i64_w, i32_w]; rfl)
    refine pS (v := ?_) (a' := ?_) 2 (some 7) (lb 13 7) rfl rfl (by kernel_rfl) (fun _ _ _ h => h) (by rfl) ?_ ?_ ?_; rotate_left; (intro w'; go_simp; with_reducible rfl); rotate_left; (simp only [Act.put, List.setIfInBounds_toArray, List.set_cons_zero, List.set_cons_succ, i64_w, i32_w]; rfl)
    refine pS (v := ?_) (a' := ?_) 3 (some 8) (lb 13 15) rfl rfl (by kernel_rfl) (fun _ _ _ h => h) (by rfl) ?_ ?_ ?_; rotate_left; (intro w'; go_simp; with_reducible rfl); rotate_left; (simp only [Act.put, List.setIfInBounds_toArray, List.set_cons_zero, List.set_cons_succ, i64_w, i32_w]; rfl)
    refine pO (a' := ?_) 4 (some 9) (lb 13 31) rfl rfl (by kernel_rfl) (fun _ _ _ h => h) (by rfl) ?_ ?_; rotate_left; (simp only [Act.put, List.setIfInBounds_toArray, List.set_cons_zero, List.set_cons_succ, i64_w, i32_w]; rfl)
    refine pO (a' := ?_) 5 (some 10) (lb 13 63) rfl rfl (by kernel_rfl) (fun _ _ _ h => h) (by rfl) ?_ ?_; rotate_left; (simp only [Act.put, List.setIfInBounds_toArray, List.set_cons_zero, List.set_cons_succ, i64_w, i32_w]; rfl)
    refine pO (a' := ?_) 6 (some 11) (lb 13 127) rfl rfl (by kernel_rfl) (fun _ _ _ h => h) (by rfl) ?_ ?_; rotate_left; (simp only [Act.put, List.setIfInBounds_toArray, List.set_cons_zero, List.set_cons_succ, i64_w, i32_w]; rfl)
    refine pO (a' := ?_) 7 (some 12) (lb 13 255) rfl rfl (by kernel_rfl) (fun _ _ _ h => h) (by rfl) ?_ ?_; rotate_left; (simp only [Act.put, List.setIfInBounds_toArray, List.set_cons_zero, List.set_cons_succ, i64_w, i32_w]; rfl)
    refine pO (a' := ?_) 8 (some 13) (lb 13 511) rfl rfl (by kernel_rfl) (fun _ _ _ h => h) (by rfl) ?_ ?_; rotate_left; (simp only [Act.put, List.setIfInBounds_toArray, List.set_cons_zero, List.set_cons_succ, i64_w, i32_w]; rfl)
    refine pO (a' := ?_) 9 (some 14) (lb 13 1023) rfl rfl (by kernel_rfl) (fun _ _ _ h => h) (by rfl) ?_ ?_; rotate_left; (simp only [Act.put, List.setIfInBounds_toArray, List.set_cons_zero, List.set_cons_succ, i64_w, i32_w]; rfl)
    refine pO (a' := ?_) 10 (some 15) (lb 13 2047) rfl rfl (by kernel_rfl) (fun _ _ _ h => h) (by rfl) ?_ ?_; rotate_left; (simp only [Act.put, List.setIfInBounds_toArray, List.set_cons_zero, List.set_cons_succ, i64_w, i32_w]; rfl)
    refine pS (v := ?_) (a' := ?_) 11 (some 16) (lb 13 4095) rfl rfl (by kernel_rfl) (fun _ _ _ h => h) (by rfl) ?_ ?_ ?_; rotate_left; (intro w'; go_simp; with_reducible rfl); rotate_left; (simp only [Act.put, List.setIfInBounds_toArray, List.set_cons_zero, List.set_cons_succ, i64_w, i32_w]; rfl)
    refine pS (v := ?_) (a' := ?_) 12 (some 4) (lb 13 8191) rfl rfl (by kernel_rfl) (fun _ _ _ h => h) (by rfl) ?_ ?_ ?_; rotate_left; (intro w'; go_simp; with_reducible rfl); rotate_left; (simp only [Act.put, List.setIfInBounds_toArray, List.set_cons_zero, List.set_cons_succ, i64_w, i32_w]; rfl)
    refine done_ (by kernel_rfl) ?_
    go_wp2_with fail
    go_ret
    exact ⟨rfl, B0.out⟩
  · have t1 : (id != 0) = true := bne_iff_ne.mpr h0
    have t2 : ((0 : Int) == id) = false := beq_eq_false_iff_ne.mpr (fun e => h0 e.symm)
    clear h0
    go_enter Try.func72, Try.ntmps72
    go_wp2_with fail
    refine start_ (n := 13) (S := fun w' => w'.cell? ⟨w.heap.size, 0, none⟩ = some (.int .i64 slot) ∧ w'.cell? ⟨w.heap.size, 1, none⟩ = some (.int .i64 id)) (ds := []) (lb 13 0) (by kernel_rfl) rfl rfl ⟨(blk_cell X0.out 0).trans rfl, (blk_cell X0.out 1).trans rfl⟩ (fun hHeld => ?_)
    refine pS (v := ?_) (a' := ?_) 0 (some 5) (lb 13 1) rfl rfl (by kernel_rfl) (fun _ _ _ h => h) (by rfl) ?_ ?_ ?_; rotate_left; (intro w'; go_simp; with_reducible rfl); rotate_left; (simp only [Act.put, List.setIfInBounds_toArray, List.set_cons_zero, List.set_cons_succ, i64_w, i32_w]; rfl)
    refine tS (v := ?_) (a' := ?_) 1 (some 6) (lb 13 3) rfl rfl (by kernel_rfl) (fun _ _ _ h => h) hHeld (by rfl) ?_ ?_ ?_; rotate_left; (rintro w' ⟨s0, s1⟩; go_simp; with_reducible rfl); rotate_left; (simp only [Act.put, List.setIfInBounds_toArray, List.set_cons_zero, List.set_cons_succ, i64_w, i32_w]; rfl)
    refine pS (v := ?_) (a' := ?_) 2 (some 7) (lb 13 7) rfl rfl (by kernel_rfl) (fun _ _ _ h => h) (by rfl) ?_ ?_ ?_; rotate_left; (intro w'; go_simp; with_reducible rfl); rotate_left; (simp only [Act.put, List.setIfInBounds_toArray, List.set_cons_zero, List.set_cons_succ, i64_w, i32_w]; rfl)
    refine pS (v := ?_) (a' := ?_) 3 (some 8) (lb 13 15) rfl rfl (by kernel_rfl) (fun _ _ _ h => h) (by rfl) ?_ ?_ ?_; rotate_left; (intro w'; go_simp; with_reducible rfl); rotate_left; (simp only [Act.put, List.setIfInBounds_toArray, List.set_cons_zero, List.set_cons_succ, i64_w, i32_w]; rfl)
    refine pS (v := ?_) (a' := ?_) 4 (some 9) (lb 13 31) rfl rfl (by kernel_rfl) (fun _ _ _ h => h) (by rfl) ?_ ?_ ?_; rotate_left; (intro w'; go_simp; with_reducible rfl); rotate_left; (simp only [Act.put, List.setIfInBounds_toArray, List.set_cons_zero, List.set_cons_succ, i64_w, i32_w]; rfl)
    refine pS (v := ?_) (a' := ?_) 5 (some 10) (lb 13 63) rfl rfl (by kernel_rfl) (fun _ _ _ h => h) (by rfl) ?_ ?_ ?_; rotate_left; (intro w'; go_simp; with_reducible rfl); rotate_left; (simp only [Act.put, List.setIfInBounds_toArray, List.set_cons_zero, List.set_cons_succ, i64_w, i32_w]; rfl)
    refine pS (v := ?_) (a' := ?_) 8 (some 13) (lb 13 319) rfl rfl (by kernel_rfl) (fun _ _ _ h => h) (by rfl) ?_ ?_ ?_; rotate_left; (intro w'; go_simp; with_reducible rfl); rotate_left; (simp only [Act.put, List.setIfInBounds_toArray, List.set_cons_zero, List.set_cons_succ, i64_w, i32_w]; rfl)
    refine tS (v := ?_) (a' := ?_) 6 (some 11) (lb 13 383) rfl rfl (by kernel_rfl) (fun _ _ _ h => h) hHeld (by rfl) ?_ ?_ ?_; rotate_left; (rintro w' ⟨s0, s1⟩; go_simp; with_reducible rfl); rotate_left; (simp only [Act.put, List.setIfInBounds_toArray, List.set_cons_zero, List.set_cons_succ, i64_w, i32_w]; rfl)
    refine tS (v := ?_) (a' := ?_) 9 (some 14) (lb 13 895) rfl rfl (by kernel_rfl) (fun _ _ _ h => h) hHeld (by rfl) ?_ ?_ ?_; rotate_left; (rintro w' ⟨s0, s1⟩; go_simp; with_reducible rfl); rotate_left; (simp only [Act.put, List.setIfInBounds_toArray, List.set_cons_zero, List.set_cons_succ, i64_w, i32_w]; rfl)
    refine one_ (i := 7) (N := some 12) (lb 13 1023) rfl rfl (by kernel_rfl) (by decide) (fun K hK => ?_)
    refine goes_ Try.func41 (by kernel_rfl) rfl #[.pointer none, .int .i64 slot] (by rfl) rfl rfl (by simp only [List.map_toArray, List.map_cons, List.map_nil]; rfl) ?_
    with_reducible refine (soulNowNil_T slot _).mono ?_
    rintro e w5 ⟨rfl, hb⟩
    refine ⟨_, rfl, ?_⟩
    have Y0 := Aside0.mk (blk_below X0.out hb)
    have B5 := Aside0.mk (below_step B0.out hb)
    clear hb
    refine hK.out _ _ ⟨(blk_cell Y0.out 0).trans rfl, (blk_cell Y0.out 1).trans rfl⟩ (fun hHeld => ?_)
    clear hK K
    refine norm_ (a' := ?_) ?_ ?_
    rotate_left
    · show Act.put _ (some 12) _ = _
      simp only [Act.put, List.setIfInBounds_toArray, List.set_cons_zero, List.set_cons_succ, i64_w, i32_w]
      rfl
    refine pS (v := ?_) (a' := ?_) 10 (some 15) (lb 13 2047) rfl rfl (by kernel_rfl) (fun _ _ _ h => h) (by rfl) ?_ ?_ ?_; rotate_left; (intro w'; go_simp; with_reducible rfl); rotate_left; (simp only [Act.put, List.setIfInBounds_toArray, List.set_cons_zero, List.set_cons_succ, i64_w, i32_w]; rfl)
    refine pS (v := ?_) (a' := ?_) 11 (some 16) (lb 13 4095) rfl rfl (by kernel_rfl) (fun _ _ _ h => h) (by rfl) ?_ ?_ ?_; rotate_left; (intro w'; go_simp; with_reducible rfl); rotate_left; (simp only [Act.put, List.setIfInBounds_toArray, List.set_cons_zero, List.set_cons_succ, i64_w, i32_w]; rfl)
    refine pS (v := ?_) (a' := ?_) 12 (some 4) (lb 13 8191) rfl rfl (by kernel_rfl) (fun _ _ _ h => h) (by rfl) ?_ ?_ ?_; rotate_left; (intro w'; go_simp; with_reducible rfl); rotate_left; (simp only [Act.put, List.setIfInBounds_toArray, List.set_cons_zero, List.set_cons_succ, i64_w, i32_w]; rfl)
    refine done_ (by kernel_rfl) ?_
    go_wp2_with fail
    go_ret
    exact ⟨rfl, B5.out⟩
set_option maxHeartbeats 8000000 in
set_option maxRecDepth 100000 in
theorem awake06_T (w : World) : Calls Try.prog 67 #[] w fun e w' => e = .returned (.bool true) ∧ Below w.heap.size w w' := by
  go_enter Try.func67, Try.ntmps67
  go_wp2_with fail
  refine (soulNew_T w).mono ?_
  rintro e w1 ⟨gs, g3, rfl, h1, h2⟩
  have S1 := Aside0.mk h1
  have B1 := Aside0.mk h2
  clear h1 h2
  go_wp2_with fail
  refine (soulBorn_T gs g3 _ [] [] 5 w _ S1.out B1.out (by decide)).mono ?_
  rintro e w2 ⟨rfl, ⟨v2, h1⟩, h2, _⟩
  have S2 := Aside0.mk h1
  have B2 := Aside0.mk h2
  rw [show bornId [] 5 = 1 from rfl]
  clear h1 h2 S1 B1
  go_wp2_with fail
  refine (soulBorn_T gs g3 v2 _ _ 3 w _ S2.out B2.out (by decide)).mono ?_
  rintro e w3 ⟨rfl, ⟨v3, h1⟩, h2, _⟩
  have S3 := Aside0.mk h1
  have B3 := Aside0.mk h2
  rw [show bornId (bornRow [] 5) 3 = 2 from rfl]
  clear h1 h2 S2 B2
  go_wp2_with fail
  refine (soulBorn_T gs g3 v3 _ _ 5 w _ S3.out B3.out (by decide)).mono ?_
  rintro e w4 ⟨rfl, ⟨v4, h1⟩, h2, _⟩
  have S4 := Aside0.mk (show SoulIs w w4 gs g3 v4 [(5, 3), (3, 2)] [5, 3, 5] from h1)
  have B4 := Aside0.mk h2
  rw [show bornId (bornRow (bornRow [] 5) 3) 5 = 3 from rfl]
  clear h1 h2 S3 B3
  go_wp2_with fail
  refine (soulNow_T gs g3 v4 _ _ 5 w _ S4.out).mono ?_
  rintro e w5 ⟨rfl, hb⟩
  rw [show (get ([(5, 3), (3, 2)] : List (Int × Int)) 5).getD 0 = 3 from rfl]
  have S5 := Aside0.mk (S4.out.below hb)
  have B5 := Aside0.mk (below_step B4.out hb)
  clear hb
  go_wp2_with fail
  refine (soulIs_T gs g3 v4 _ _ 5 3 w _ S5.out).mono ?_
  rintro e w6 ⟨rfl, hb⟩
  rw [show isR ([(5, 3), (3, 2)] : List (Int × Int)) 5 3 = true from rfl]
  have S6 := Aside0.mk (S5.out.below hb)
  have B6 := Aside0.mk (below_step B5.out hb)
  clear hb
  go_wp2_with fail
  refine (soulIs_T gs g3 v4 _ _ 5 1 w _ S6.out).mono ?_
  rintro e w7 ⟨rfl, hb⟩
  rw [show isR ([(5, 3), (3, 2)] : List (Int × Int)) 5 1 = false from rfl]
  have S7 := Aside0.mk (S6.out.below hb)
  have B7 := Aside0.mk (below_step B6.out hb)
  clear hb
  go_wp2_with fail
  refine (slotOf_T gs g3 v4 _ _ 2 w _ S7.out (by decide)).mono ?_
  rintro e w8 ⟨rfl, hb⟩
  rw [show slotR [5, 3, 5] 2 = 3 from rfl]
  have S8 := Aside0.mk (S7.out.below hb)
  have B8 := Aside0.mk (below_step B7.out hb)
  clear hb
  go_wp2_with fail
  refine (soulCount_T gs g3 v4 _ _ w _ S8.out).mono ?_
  rintro e w9 ⟨rfl, hb⟩
  rw [show ((([5, 3, 5] : List Int).length : Nat) : Int) = 3 from rfl]
  have S9 := Aside0.mk (S8.out.below hb)
  have B9 := Aside0.mk (below_step B8.out hb)
  clear hb
  go_wp2_with fail
  refine (soulBorn_T gs g3 v4 _ _ 0 w _ S9.out B9.out (by decide)).mono ?_
  rintro e w10 ⟨rfl, _, h2, _⟩
  rw [show bornId [5, 3, 5] 0 = 0 from rfl]
  have B10 := Aside0.mk h2
  clear h2
  go_wp2_with fail
  go_ret
  exact ⟨rfl, B10.out⟩
end Go.Proofs.Ytlpnggapndokeaa.PIdealKeeps

namespace Go.Proofs.Ytlpnggapndokeaa.PIdealKeeps
open Go Go.RowKit Go.Proofs.YtlpnggapndokeaaW.PrintWords Go.Proofs.YtlpnggapndokeaaW.PrintLast Go.Proofs.YtlpnggapndokeaaW.PrintMore Go.Proofs.Ytlpnggapndokeaa.M
attribute [local go_sem] max2_int min2_int max_two min_two max_three min_three max_four min_four
set_option linter.unusedVariables false
set_option linter.unusedSimpArgs false
set_option maxHeartbeats 8000000 in
set_option maxRecDepth 100000 in
/-- Whether rows of numbers are the same. -/
theorem ints_T (v0 v1 : Value) (l : List Int) (b0 b1 : Nat) (w : World) (h0 : (Kd.int .i64).R 3 w b0 (fun _ => True) v0 l) (h1 : (Kd.int .i64).R 3 w b1 (fun _ => True) v1 l) (hl : l.length ≤ 100000) :
    Calls Try.prog 74 #[v0, v1] w fun e w' => e = .returned (.bool true) ∧ Below w.heap.size w w' := by
  obtain ⟨A, c, rfl, _, hC⟩ := Kd.R_reads h0
  obtain ⟨A', c', rfl, _, hC'⟩ := Kd.R_reads h1
  have HC := Aside0.mk hC
  have HD := Aside0.mk hC'
  have HL := Aside0.mk hl
  have tn : ((l.length : Int) != (l.length : Int)) = false := by simp
  clear hC hC' h0 h1 hl
  go_enter Try.func74, Try.ntmps74
  go_wp2_with fail
  clear tn
  go_loopg [5] l.length (fun kq v5 w' => ∃ (i : Int), v5 = .int .i64 i ∧ Aside0 (0 ≤ i ∧ i + kq = l.length) ∧ Aside0 (Below w.heap.size w w'))
  case atStart => exact ⟨0, rfl, ⟨by omega⟩, ⟨Below.refl _ _⟩⟩
  case round =>
    obtain ⟨i, rfl, HK, HB⟩ := hrel
    by_cases hi : i < (l.length : Int)
    · have t1 : decide (i < (l.length : Int)) = true := decide_eq_true hi
      have p0 : (0 : Int) ≤ i := HK.out.1
      have q0 : i < (l.length : Int) := hi
      have q1 := Aside0.mk (show 0 ≤ i ∧ i < (l.length : Int) from ⟨p0, hi⟩)
      clear hi
      obtain ⟨ko, rfl⟩ : ∃ m, gk = m + 1 := ⟨gk - 1, by have := HK.out; omega⟩
      obtain ⟨ad, e0, hx⟩ := Kd.at_int HC.out i p0 q0
      obtain ⟨ae, e1, hy⟩ := Kd.at_int HD.out i p0 q0
      subst e0 e1
      replace hx := (HB.out.cell (World.block_lt_of_cell? w _ hx)).trans hx
      replace hy := (HB.out.cell (World.block_lt_of_cell? w _ hy)).trans hy
      have dx : wr.drew.cell? (ad.add i.toNat) = some (.int .i64 (rd l i)) := hx
      have dy : wr.drew.cell? (ae.add i.toNat) = some (.int .i64 (rd l i)) := hy
      generalize rd l i = y at *
      have te : (y != y) = false := by simp
      have p0b : decide (0 ≤ i) = true := decide_eq_true p0
      have wi : wrap64 (i + 1) = i + 1 := by have := q1.out; have := HL.out; unfold wrap64; omega
      replace p0 := eq_true p0
      replace q0 := eq_true q0
      go_wp2_with fail
      refine start_ (n := 9) (S := fun w' => w'.cell? (ad.add i.toNat) = some (.int .i64 y) ∧ w'.cell? (ae.add i.toNat) = some (.int .i64 y)) (ds := []) (lb 9 0) (by kernel_rfl) rfl rfl ⟨dx, dy⟩ (fun hHeld => ?_)
      refine pS (v := ?_) (a' := ?_) 0 (some 17) (lb 9 1) rfl rfl (by kernel_rfl) (fun _ _ _ h => h) (by rfl) ?_ ?_ ?_; rotate_left; (intro w'; go_simp; with_reducible rfl); rotate_left; (simp only [Act.put, List.setIfInBounds_toArray, List.set_cons_zero, List.set_cons_succ, i64_w, i32_w]; rfl)
      refine pS (v := ?_) (a' := ?_) 1 (some 18) (lb 9 3) rfl rfl (by kernel_rfl) (fun _ _ _ h => h) (by rfl) ?_ ?_ ?_; rotate_left; (intro w'; go_simp; with_reducible rfl); rotate_left; (simp only [Act.put, List.setIfInBounds_toArray, List.set_cons_zero, List.set_cons_succ, i64_w, i32_w]; rfl)
      refine pS (v := ?_) (a' := ?_) 2 (some 19) (lb 9 7) rfl rfl (by kernel_rfl) (fun _ _ _ h => h) (by rfl) ?_ ?_ ?_; rotate_left; (intro w'; go_simp; with_reducible rfl); rotate_left; (simp only [Act.put, List.setIfInBounds_toArray, List.set_cons_zero, List.set_cons_succ, i64_w, i32_w]; rfl)
      refine pS (v := ?_) (a' := ?_) 4 (some 21) (lb 9 23) rfl rfl (by kernel_rfl) (fun _ _ _ h => h) (by rfl) ?_ ?_ ?_; rotate_left; (intro w'; go_simp; with_reducible rfl); rotate_left; (simp only [Act.put, List.setIfInBounds_toArray, List.set_cons_zero, List.set_cons_succ, i64_w, i32_w]; rfl)
      refine pS (v := ?_) (a' := ?_) 5 (some 22) (lb 9 55) rfl rfl (by kernel_rfl) (fun _ _ _ h => h) (by rfl) ?_ ?_ ?_; rotate_left; (intro w'; go_simp; with_reducible rfl); rotate_left; (simp only [Act.put, List.setIfInBounds_toArray, List.set_cons_zero, List.set_cons_succ, i64_w, i32_w]; rfl)
      refine pS (v := ?_) (a' := ?_) 6 (some 23) (lb 9 119) rfl rfl (by kernel_rfl) (fun _ _ _ h => h) (by rfl) ?_ ?_ ?_; rotate_left; (intro w'; go_simp; with_reducible rfl); rotate_left; (simp only [Act.put, List.setIfInBounds_toArray, List.set_cons_zero, List.set_cons_succ, i64_w, i32_w]; rfl)
      refine tS (v := ?_) (a' := ?_) 3 (some 20) (lb 9 127) rfl rfl (by kernel_rfl) (fun _ _ _ h => h) hHeld (by rfl) ?_ ?_ ?_; rotate_left; (rintro w' ⟨s0, s1⟩; go_simp; with_reducible rfl); rotate_left; (simp only [Act.put, List.setIfInBounds_toArray, List.set_cons_zero, List.set_cons_succ, i64_w, i32_w]; rfl)
      refine tS (v := ?_) (a' := ?_) 7 (some 24) (lb 9 255) rfl rfl (by kernel_rfl) (fun _ _ _ h => h) hHeld (by rfl) ?_ ?_ ?_; rotate_left; (rintro w' ⟨s0, s1⟩; go_simp; with_reducible rfl); rotate_left; (simp only [Act.put, List.setIfInBounds_toArray, List.set_cons_zero, List.set_cons_succ, i64_w, i32_w]; rfl)
      refine pS (v := ?_) (a' := ?_) 8 (some 25) (lb 9 511) rfl rfl (by kernel_rfl) (fun _ _ _ h => h) (by rfl) ?_ ?_ ?_; rotate_left; (intro w'; go_simp; with_reducible rfl); rotate_left; (simp only [Act.put, List.setIfInBounds_toArray, List.set_cons_zero, List.set_cons_succ, i64_w, i32_w]; rfl)
      refine done_ (by kernel_rfl) ?_
      go_wp2_with fail
      go_roundg ko
      case rel => exact ⟨i + 1, by first | rfl | rw [wi], ⟨by have := HK.out; have := q1.out; omega⟩, ⟨below_drew HB.out⟩⟩
      case measure => exact Nat.lt_succ_self _
    · have t1 : decide (i < (l.length : Int)) = false := decide_eq_false hi
      clear hi
      go_wp2_with fail
      go_ret
      exact ⟨rfl, HB.out⟩
set_option maxHeartbeats 16000000 in
set_option maxRecDepth 100000 in
theorem rslots_T (gu off : Nat) (A : Option Addr) (c : Nat) (row : List Int) (w : World) (hc : w.cell? ⟨gu, off, none⟩ = some (.slice A row.length c)) (hC : Kd.C (Kd.int .i64) w A row.length row) (hl : row.length ≤ 100000) :
    Calls Try.prog 78 #[.pointer (some ⟨gu, off, none⟩)] w fun e w' => ∃ v, e = .returned v ∧ (Kd.int .i64).R 3 w' w.heap.size (fun _ => True) v ((firsts row row.length).mergeSort leZ) ∧ Below w.heap.size w w' := by
  have hu58 := Try.underlying58
  have HC := Aside0.mk hC
  have HCC := Aside0.mk hc
  have HL := Aside0.mk hl
  have HG := Aside0.mk (World.block_lt_of_cell? w _ hc)
  have B0 := Aside0.mk (below_alloc (Below.refl w.heap.size w) (.cells #[] 3))
  have R0 := Aside0.mk (R_emptyR (Kd.int .i64) 3 w (fun _ => True) trivial)
  clear hc hC hl
  go_enter Try.func78, Try.ntmps78
  go_wp2_with fail
  generalize w.alloc (.cells #[] 3) = w1 at *
  go_loopg [3, 4] row.length (fun kq v3 v4 w' => ∃ (i : Int) (v : Value), v = v3 ∧ v4 = .int .i64 i ∧ Aside0 (0 ≤ i ∧ i + kq = row.length) ∧ Aside0 (Below w.heap.size w w') ∧ Aside0 ((Kd.int .i64).R 3 w' w.heap.size (fun _ => True) v ((firsts row i.toNat).mergeSort leZ)))
  case atStart => exact ⟨0, _, rfl, rfl, ⟨by omega⟩, B0, ⟨by rw [show (firsts row (Int.toNat 0)).mergeSort leZ = [] by simp [firsts]]; exact R0.out⟩⟩
  case round =>
    obtain ⟨i, v, rfl, rfl, HK, HB, HR⟩ := hrel
    have c0 : wr.cell? ⟨gu, off, none⟩ = some (.slice A row.length c) := (HB.out.cell (p := ⟨gu, off, none⟩) HG.out).trans HCC.out
    by_cases hi : i < (row.length : Int)
    · have t1 : decide (i < (row.length : Int)) = true := decide_eq_true hi
      have p0 : (0 : Int) ≤ i := HK.out.1
      have q0 : i < (row.length : Int) := hi
      have q1 := Aside0.mk (show 0 ≤ i ∧ i < (row.length : Int) from ⟨p0, hi⟩)
      clear hi
      obtain ⟨ko, rfl⟩ : ∃ m, gk = m + 1 := ⟨gk - 1, by have := HK.out; omega⟩
      obtain ⟨ad, e0, hx⟩ := Kd.at_int HC.out i p0 q0
      cases e0
      have hx0 := (HB.out.cell (World.block_lt_of_cell? w _ hx)).trans hx
      obtain ⟨y, hy⟩ : ∃ y, row.getD i.toNat 0 = y := ⟨_, rfl⟩
      have hrd : rd row i = y := hy
      rw [hrd] at hx0 hx
      have HX := Aside0.mk hx
      have AF := Aside0.mk (allF_first row (n := i.toNat) (L := row.length) (by omega))
      have FN := Aside0.mk (show firsts row (i + 1).toNat = if nowN row (row.getD i.toNat 0) i.toNat = 0 then firsts row i.toNat ++ [row.getD i.toNat 0] else firsts row i.toNat by
        rw [show (i + 1).toNat = i.toNat + 1 by omega]
        rfl)
      rw [hy] at AF FN
      have EI := Aside0.mk (show ((i.toNat : Int)) = i by omega)
      clear hx hy hrd
      have p0b : decide (0 ≤ i) = true := decide_eq_true p0
      have wi : wrap64 (i + 1) = i + 1 := by have := q1.out; have := HL.out; unfold wrap64; omega
      have P0 := Aside0.mk p0
      have Q0 := Aside0.mk q0
      replace p0 := eq_true p0
      replace q0 := eq_true q0
      go_wp2_with fail
      have CM := Aside0.mk (Kd.C_below HC.out HB.out)
      refine (rall_T gu off (some ad) c row y wr c0 CM.out HL.out).mono ?_
      rintro e w2 ⟨u, rfl, hR2, hb2⟩
      obtain ⟨A1, c1, rfl, _, _⟩ := Kd.R_reads hR2
      have B2 := Aside0.mk (below_step HB.out hb2)
      have R2 := Aside0.mk (Kd.R_below HR.out hb2)
      clear hR2 hb2 c0 hx0
      have c0 : w2.cell? ⟨gu, off, none⟩ = some (.slice (some ad) row.length c) := (B2.out.cell (p := ⟨gu, off, none⟩) HG.out).trans HCC.out
      have hx0 := (B2.out.cell (World.block_lt_of_cell? w _ HX.out)).trans HX.out
      have ALP := Aside0.mk (show 0 < (allF row y row.length).length from List.length_pos_iff.2 AF.out.1)
      have t2 : decide (((allF row y row.length).length : Int) > 0) = true := decide_eq_true (by have := ALP.out; omega)
      have t2b : (0 < (allF row y row.length).length) = True := eq_true ALP.out
      go_wp2_with fail
      have CM2 := Aside0.mk (Kd.C_below HC.out B2.out)
      refine (rall_T gu off (some ad) c row y w2 c0 CM2.out HL.out).mono ?_
      rintro e w3 ⟨u, rfl, hR3, hb3⟩
      obtain ⟨A2, c2, rfl, _, hC2⟩ := Kd.R_reads hR3
      have B3 := Aside0.mk (below_step B2.out hb3)
      have R3 := Aside0.mk (Kd.R_below R2.out hb3)
      obtain ⟨ae, e2, hz⟩ := Kd.at_int hC2 0 (Int.le_refl _) (by have := ALP.out; omega)
      cases e2
      clear hR3 hb3 hC2 c0 hx0 B2 R2
      have ha0 : ae.add 0 = ae := by cases ae; rfl
      have hz0 : w3.cell? ae = some (.int .i64 (rd (allF row y row.length) 0)) := (congrArg w3.cell? ha0).symm.trans hz
      clear ha0
      have zq : ((0 : Int) < ((allF row y row.length).length : Int)) = True := eq_true (by have := ALP.out; omega)
      have HD := Aside0.mk (show rd (allF row y row.length) 0 = (i + 1) ↔ nowN row y i.toNat = 0 by have := AF.out.2; rw [EI.out] at this; exact this)
      clear hz
      generalize rd (allF row y row.length) 0 = z at *
      by_cases hf : z = i + 1
      · have t3 : (z == i + 1) = true := beq_iff_eq.2 hf
        have FN2 := Aside0.mk (FN.out.trans (if_pos (HD.out.1 hf)))
        subst hf
        have c0 : w3.cell? ⟨gu, off, none⟩ = some (.slice (some ad) row.length c) := (B3.out.cell (p := ⟨gu, off, none⟩) HG.out).trans HCC.out
        have hx0 := (B3.out.cell (World.block_lt_of_cell? w _ HX.out)).trans HX.out
        have SL := Aside0.mk (show ((firsts row i.toNat).mergeSort leZ).length ≤ 100000 by rw [List.length_mergeSort]; have := firsts_len row i.toNat; have := q1.out; have := HL.out; omega)
        have DN := Aside0.mk (fun k (h0 : k ≤ ((firsts row i.toNat).mergeSort leZ).length) h1 h2 => insAt_done (l := firsts row i.toNat) (x := y) (k := k) h0 h1 h2)
        have FN3 := Aside0.mk (show (firsts row (i + 1).toNat).mergeSort leZ = (firsts row i.toNat ++ [y]).mergeSort leZ by rw [FN2.out])
        clear FN2 FN HD
        generalize (firsts row i.toNat).mergeSort leZ = S at *
        go_wp2_with (first | ((with_reducible refine gate_builtin (b := .append) (xs := #[.tmp 44, .tmp 52]) rfl ?_); at_builtin; refine Kd.R_append (Kd.int .i64) w.heap.size rfl (.tmp 44) (.tmp 52) 56 3 (.int .i64 0) 8 rfl Try.underlying56 info3' rfl (by decide) (by omega) v S y [.int .i64 y] (fun _ => True) (fun _ => False) rfl rfl ?aP (fun _ hk => hk.elim) (fun _ _ => trivial) R3.out B3.out ?aS ?aL ?_; (case aP => rfl); (case aS => exact B3.out.size); (case aL => have := SL.out; omega); intro v1 w4 ho hb hg hat; obtain ⟨gB, cap, ev, hgB, hgl, cells0, hcl⟩ := Kd.R_form ho (by simp); obtain ⟨n, hn⟩ : ∃ n, (S ++ [y]).length = n := ⟨_, rfl⟩; rw [hn] at ev; have HN := Aside0.mk (show n = S.length + 1 by rw [← hn]; simp); clear hn; subst ev; have RO := Aside0.mk ho; have RB := Aside0.mk hb; have GB := Aside0.mk hgB; clear ho hb hg hat hgB hgl hcl; have wk : wrap64 ((n : Int) - 1) = ((S.length : Nat) : Int) := by have := SL.out; have := HN.out; unfold wrap64; omega))
        clear c0 hx0
        go_loopg [5] S.length (fun kq v5 w' => ∃ (K : Int), v5 = .int .i64 K ∧ Aside0 (K = kq ∧ K ≤ S.length) ∧ Aside0 (Below w.heap.size w w') ∧ Aside0 ((Kd.int .i64).R 3 w' w.heap.size (fun _ => True) (.slice (some ⟨gB, 0, none⟩) n cap) (insAt S y K.toNat)) ∧ Aside0 (∀ j : Nat, K ≤ j → j < S.length → y ≤ S.getD j 0))
        case atStart => exact ⟨(S.length : Nat), by first | rfl | rw [wk], ⟨rfl, Int.le_refl _⟩, RB, ⟨by rw [Int.toNat_natCast, insAt_end]; exact RO.out⟩, ⟨fun j h1 h2 => absurd h2 (by omega)⟩⟩
        case round =>
          clear RB RO
          obtain ⟨K, rfl, HK2, HB2, HR2, HY⟩ := hrel
          by_cases hk : K > 0
          · have t4 : decide (K > 0) = true := decide_eq_true hk
            obtain ⟨kj, rfl⟩ : ∃ m, gk = m + 1 := ⟨gk - 1, by have := HK2.out; omega⟩
            obtain ⟨L, hL⟩ : ∃ L : Int, L = K - 1 := ⟨_, rfl⟩
            have HLL := Aside0.mk (show 0 ≤ L ∧ L + 1 = K ∧ K ≤ S.length ∧ K.toNat = L.toNat + 1 by have := HK2.out; omega)
            have wL : wrap64 (K - 1) = L := by have := HLL.out; have := SL.out; unfold wrap64; omega
            obtain ⟨x0, f0⟩ := Kd.R_celln (0 : Int) HR2.out K (by have := HLL.out; omega) (by have := HLL.out; have := HN.out; omega)
            obtain ⟨x1, f1⟩ := Kd.R_celln (0 : Int) HR2.out L (by have := HLL.out; omega) (by have := HLL.out; have := HN.out; omega)
            obtain ⟨z2, hz2⟩ : ∃ z, S.getD L.toNat 0 = z := ⟨_, rfl⟩
            have HZ2 := Aside0.mk hz2
            have x0' : wr.cell? ⟨gB, K.toNat, none⟩ = some (.int .i64 y) := x0.trans (by rw [show rdOf (0 : Int) (insAt S y K.toNat) K = (insAt S y K.toNat).getD K.toNat 0 from rfl, insAt_at S y _ (by have := HLL.out; omega)])
            have x1' : wr.cell? ⟨gB, L.toNat, none⟩ = some (.int .i64 z2) := x1.trans (by rw [show rdOf (0 : Int) (insAt S y K.toNat) L = (insAt S y K.toNat).getD L.toNat 0 from rfl, HLL.out.2.2.2, insAt_prev S y _ (by have := HLL.out; omega), hz2])
            clear x0 x1 hz2
            have a0 : (0 ≤ K) = True := eq_true (by omega)
            have a1 : (K < (n : Int)) = True := eq_true (by have := HLL.out; have := HN.out; omega)
            have a2 : (0 ≤ L) = True := eq_true HLL.out.1
            have a3 : (L < (n : Int)) = True := eq_true (by have := HLL.out; have := HN.out; omega)
            have b0 : decide (0 ≤ K) = true := decide_eq_true (by omega)
            have b2 : decide (0 ≤ L) = true := decide_eq_true HLL.out.1
            have ne1 : ¬ K.toNat = L.toNat := by have := HLL.out; omega
            have ne2 : ¬ L.toNat = K.toNat := by have := HLL.out; omega
            have d0 : wr.drew.cell? ⟨gB, K.toNat, none⟩ = some (.int .i64 y) := x0'
            have d1 : wr.drew.cell? ⟨gB, L.toNat, none⟩ = some (.int .i64 z2) := x1'
            have e0 : wr.drew.frozen? ⟨gB, K.toNat, none⟩ = false := f0
            have e1 : wr.drew.frozen? ⟨gB, L.toNat, none⟩ = false := f1
            clear hk hL
            by_cases hlt : y < z2
            · have t5 : decide (y < z2) = true := decide_eq_true hlt
              have HY2 := Aside0.mk (show ∀ j : Nat, L ≤ j → j < S.length → y ≤ S.getD j 0 from fun j h1 h2 => by
                by_cases h : K ≤ (j : Int)
                · exact HY.out j h h2
                · have : j = L.toNat := by have := HLL.out; omega
                  rw [this, HZ2.out]
                  exact Int.le_of_lt hlt)
              clear hlt
              go_wp2_with fail
              refine start_ (n := 14) (S := fun w' => w'.cell? ⟨gB, K.toNat, none⟩ = some (.int .i64 y) ∧ w'.cell? ⟨gB, L.toNat, none⟩ = some (.int .i64 z2)) (ds := []) (lb 14 0) (by kernel_rfl) rfl rfl ⟨d0, d1⟩ (fun hHeld => ?_)
              refine pS (v := ?_) (a' := ?_) 0 (some 57) (lb 14 1) rfl rfl (by kernel_rfl) (fun _ _ _ h => h) (by rfl) ?_ ?_ ?_; rotate_left; (intro w'; go_simp; with_reducible rfl); rotate_left; (simp only [Act.put, List.setIfInBounds_toArray, List.set_cons_zero, List.set_cons_succ, i64_w, i32_w]; rfl)
              refine pS (v := ?_) (a' := ?_) 1 (some 58) (lb 14 3) rfl rfl (by kernel_rfl) (fun _ _ _ h => h) (by rfl) ?_ ?_ ?_; rotate_left; (intro w'; go_simp; with_reducible rfl); rotate_left; (simp only [Act.put, List.setIfInBounds_toArray, List.set_cons_zero, List.set_cons_succ, i64_w, i32_w]; rfl)
              refine pS (v := ?_) (a' := ?_) 2 (some 59) (lb 14 7) rfl rfl (by kernel_rfl) (fun _ _ _ h => h) (by rfl) ?_ ?_ ?_; rotate_left; (intro w'; go_simp; with_reducible rfl); rotate_left; (simp only [Act.put, List.setIfInBounds_toArray, List.set_cons_zero, List.set_cons_succ, i64_w, i32_w]; rfl)
              refine pS (v := ?_) (a' := ?_) 3 (some 60) (lb 14 15) rfl rfl (by kernel_rfl) (fun _ _ _ h => h) (by rfl) ?_ ?_ ?_; rotate_left; (intro w'; go_simp; with_reducible rfl); rotate_left; (simp only [Act.put, List.setIfInBounds_toArray, List.set_cons_zero, List.set_cons_succ, i64_w, i32_w]; rfl)
              refine pS (v := ?_) (a' := ?_) 4 (some 61) (lb 14 31) rfl rfl (by kernel_rfl) (fun _ _ _ h => h) (by rfl) ?_ ?_ ?_; rotate_left; (intro w'; go_simp; with_reducible rfl); rotate_left; (simp only [Act.put, List.setIfInBounds_toArray, List.set_cons_zero, List.set_cons_succ, i64_w, i32_w]; rfl)
              refine pS (v := ?_) (a' := ?_) 5 (some 62) (lb 14 63) rfl rfl (by kernel_rfl) (fun _ _ _ h => h) (by rfl) ?_ ?_ ?_; rotate_left; (intro w'; go_simp; with_reducible rfl); rotate_left; (simp only [Act.put, List.setIfInBounds_toArray, List.set_cons_zero, List.set_cons_succ, i64_w, i32_w]; rfl)
              refine pS (v := ?_) (a' := ?_) 7 (some 64) (lb 14 191) rfl rfl (by kernel_rfl) (fun _ _ _ h => h) (by rfl) ?_ ?_ ?_; rotate_left; (intro w'; go_simp; with_reducible rfl); rotate_left; (simp only [Act.put, List.setIfInBounds_toArray, List.set_cons_zero, List.set_cons_succ, i64_w, i32_w]; rfl)
              refine pS (v := ?_) (a' := ?_) 8 (some 65) (lb 14 447) rfl rfl (by kernel_rfl) (fun _ _ _ h => h) (by rfl) ?_ ?_ ?_; rotate_left; (intro w'; go_simp; with_reducible rfl); rotate_left; (simp only [Act.put, List.setIfInBounds_toArray, List.set_cons_zero, List.set_cons_succ, i64_w, i32_w]; rfl)
              refine pS (v := ?_) (a' := ?_) 9 (some 66) (lb 14 959) rfl rfl (by kernel_rfl) (fun _ _ _ h => h) (by rfl) ?_ ?_ ?_; rotate_left; (intro w'; go_simp; with_reducible rfl); rotate_left; (simp only [Act.put, List.setIfInBounds_toArray, List.set_cons_zero, List.set_cons_succ, i64_w, i32_w]; rfl)
              refine pS (v := ?_) (a' := ?_) 10 (some 67) (lb 14 1983) rfl rfl (by kernel_rfl) (fun _ _ _ h => h) (by rfl) ?_ ?_ ?_; rotate_left; (intro w'; go_simp; with_reducible rfl); rotate_left; (simp only [Act.put, List.setIfInBounds_toArray, List.set_cons_zero, List.set_cons_succ, i64_w, i32_w]; rfl)
              refine tS (v := ?_) (a' := ?_) 6 (some 63) (lb 14 2047) rfl rfl (by kernel_rfl) (fun _ _ _ h => h) hHeld (by rfl) ?_ ?_ ?_; rotate_left; (rintro w' ⟨s0, s1⟩; go_simp; with_reducible rfl); rotate_left; (simp only [Act.put, List.setIfInBounds_toArray, List.set_cons_zero, List.set_cons_succ, i64_w, i32_w]; rfl)
              refine tS (v := ?_) (a' := ?_) 11 (some 68) (lb 14 4095) rfl rfl (by kernel_rfl) (fun _ _ _ h => h) hHeld (by rfl) ?_ ?_ ?_; rotate_left; (rintro w' ⟨s0, s1⟩; go_simp; with_reducible rfl); rotate_left; (simp only [Act.put, List.setIfInBounds_toArray, List.set_cons_zero, List.set_cons_succ, i64_w, i32_w]; rfl)
              refine pS (v := ?_) (a' := ?_) 12 (some 69) (lb 14 8191) rfl rfl (by kernel_rfl) (fun _ _ _ h => h) (by rfl) ?_ ?_ ?_; rotate_left; (intro w'; go_simp; with_reducible rfl); rotate_left; (simp only [Act.put, List.setIfInBounds_toArray, List.set_cons_zero, List.set_cons_succ, i64_w, i32_w]; rfl)
              refine pS (v := ?_) (a' := ?_) 13 (some 70) (lb 14 16383) rfl rfl (by kernel_rfl) (fun _ _ _ h => h) (by rfl) ?_ ?_ ?_; rotate_left; (intro w'; go_simp; with_reducible rfl); rotate_left; (simp only [Act.put, List.setIfInBounds_toArray, List.set_cons_zero, List.set_cons_succ, i64_w, i32_w]; rfl)
              refine done_ (by kernel_rfl) ?_
              have c3 : wr.cell? ⟨gB, K.toNat, none⟩ = some (.int .i64 y) := x0'
              go_wp2_with fail
              have RW := Aside0.mk (Kd.R_putn (Kd.R_putn HR2.out K z2) L y)
              have RE := Aside0.mk (show ((insAt S y K.toNat).set K.toNat z2).set L.toNat y = insAt S y L.toNat by rw [HLL.out.2.2.2, ← HZ2.out]; exact insAt_swap S y L.toNat (by have := HLL.out; omega))
              go_roundg kj
              case rel => exact ⟨L, by first | rfl | rw [wL], ⟨by have := HK2.out; have := HLL.out; omega⟩, ⟨below_drew ((HB2.out.setCell (p := ⟨gB, K.toNat, none⟩) GB.out (.int .i64 z2)).setCell (p := ⟨gB, L.toNat, none⟩) GB.out (.int .i64 y))⟩, ⟨by rw [← RE.out]; exact Kd.R_drew RW.out⟩, HY2⟩
              case measure => exact Nat.lt_succ_self _
            · have t5 : decide (y < z2) = false := decide_eq_false hlt
              have E := Aside0.mk (DN.out K.toNat (by have := HLL.out; omega) (.inr (by rw [show K.toNat - 1 = L.toNat by have := HLL.out; omega, HZ2.out]; omega)) (fun j h1 h2 => HY.out j (by have := HLL.out; omega) h2))
              clear hlt
              go_wp2_with fail
              refine start_ (n := 14) (S := fun w' => w'.cell? ⟨gB, K.toNat, none⟩ = some (.int .i64 y) ∧ w'.cell? ⟨gB, L.toNat, none⟩ = some (.int .i64 z2)) (ds := []) (lb 14 0) (by kernel_rfl) rfl rfl ⟨d0, d1⟩ (fun hHeld => ?_)
              refine pS (v := ?_) (a' := ?_) 0 (some 57) (lb 14 1) rfl rfl (by kernel_rfl) (fun _ _ _ h => h) (by rfl) ?_ ?_ ?_; rotate_left; (intro w'; go_simp; with_reducible rfl); rotate_left; (simp only [Act.put, List.setIfInBounds_toArray, List.set_cons_zero, List.set_cons_succ, i64_w, i32_w]; rfl)
              refine pS (v := ?_) (a' := ?_) 1 (some 58) (lb 14 3) rfl rfl (by kernel_rfl) (fun _ _ _ h => h) (by rfl) ?_ ?_ ?_; rotate_left; (intro w'; go_simp; with_reducible rfl); rotate_left; (simp only [Act.put, List.setIfInBounds_toArray, List.set_cons_zero, List.set_cons_succ, i64_w, i32_w]; rfl)
              refine pS (v := ?_) (a' := ?_) 2 (some 59) (lb 14 7) rfl rfl (by kernel_rfl) (fun _ _ _ h => h) (by rfl) ?_ ?_ ?_; rotate_left; (intro w'; go_simp; with_reducible rfl); rotate_left; (simp only [Act.put, List.setIfInBounds_toArray, List.set_cons_zero, List.set_cons_succ, i64_w, i32_w]; rfl)
              refine pS (v := ?_) (a' := ?_) 3 (some 60) (lb 14 15) rfl rfl (by kernel_rfl) (fun _ _ _ h => h) (by rfl) ?_ ?_ ?_; rotate_left; (intro w'; go_simp; with_reducible rfl); rotate_left; (simp only [Act.put, List.setIfInBounds_toArray, List.set_cons_zero, List.set_cons_succ, i64_w, i32_w]; rfl)
              refine pS (v := ?_) (a' := ?_) 4 (some 61) (lb 14 31) rfl rfl (by kernel_rfl) (fun _ _ _ h => h) (by rfl) ?_ ?_ ?_; rotate_left; (intro w'; go_simp; with_reducible rfl); rotate_left; (simp only [Act.put, List.setIfInBounds_toArray, List.set_cons_zero, List.set_cons_succ, i64_w, i32_w]; rfl)
              refine pS (v := ?_) (a' := ?_) 5 (some 62) (lb 14 63) rfl rfl (by kernel_rfl) (fun _ _ _ h => h) (by rfl) ?_ ?_ ?_; rotate_left; (intro w'; go_simp; with_reducible rfl); rotate_left; (simp only [Act.put, List.setIfInBounds_toArray, List.set_cons_zero, List.set_cons_succ, i64_w, i32_w]; rfl)
              refine pS (v := ?_) (a' := ?_) 7 (some 64) (lb 14 191) rfl rfl (by kernel_rfl) (fun _ _ _ h => h) (by rfl) ?_ ?_ ?_; rotate_left; (intro w'; go_simp; with_reducible rfl); rotate_left; (simp only [Act.put, List.setIfInBounds_toArray, List.set_cons_zero, List.set_cons_succ, i64_w, i32_w]; rfl)
              refine pS (v := ?_) (a' := ?_) 8 (some 65) (lb 14 447) rfl rfl (by kernel_rfl) (fun _ _ _ h => h) (by rfl) ?_ ?_ ?_; rotate_left; (intro w'; go_simp; with_reducible rfl); rotate_left; (simp only [Act.put, List.setIfInBounds_toArray, List.set_cons_zero, List.set_cons_succ, i64_w, i32_w]; rfl)
              refine pS (v := ?_) (a' := ?_) 9 (some 66) (lb 14 959) rfl rfl (by kernel_rfl) (fun _ _ _ h => h) (by rfl) ?_ ?_ ?_; rotate_left; (intro w'; go_simp; with_reducible rfl); rotate_left; (simp only [Act.put, List.setIfInBounds_toArray, List.set_cons_zero, List.set_cons_succ, i64_w, i32_w]; rfl)
              refine pS (v := ?_) (a' := ?_) 10 (some 67) (lb 14 1983) rfl rfl (by kernel_rfl) (fun _ _ _ h => h) (by rfl) ?_ ?_ ?_; rotate_left; (intro w'; go_simp; with_reducible rfl); rotate_left; (simp only [Act.put, List.setIfInBounds_toArray, List.set_cons_zero, List.set_cons_succ, i64_w, i32_w]; rfl)
              refine tS (v := ?_) (a' := ?_) 6 (some 63) (lb 14 2047) rfl rfl (by kernel_rfl) (fun _ _ _ h => h) hHeld (by rfl) ?_ ?_ ?_; rotate_left; (rintro w' ⟨s0, s1⟩; go_simp; with_reducible rfl); rotate_left; (simp only [Act.put, List.setIfInBounds_toArray, List.set_cons_zero, List.set_cons_succ, i64_w, i32_w]; rfl)
              refine tS (v := ?_) (a' := ?_) 11 (some 68) (lb 14 4095) rfl rfl (by kernel_rfl) (fun _ _ _ h => h) hHeld (by rfl) ?_ ?_ ?_; rotate_left; (rintro w' ⟨s0, s1⟩; go_simp; with_reducible rfl); rotate_left; (simp only [Act.put, List.setIfInBounds_toArray, List.set_cons_zero, List.set_cons_succ, i64_w, i32_w]; rfl)
              refine pS (v := ?_) (a' := ?_) 12 (some 69) (lb 14 8191) rfl rfl (by kernel_rfl) (fun _ _ _ h => h) (by rfl) ?_ ?_ ?_; rotate_left; (intro w'; go_simp; with_reducible rfl); rotate_left; (simp only [Act.put, List.setIfInBounds_toArray, List.set_cons_zero, List.set_cons_succ, i64_w, i32_w]; rfl)
              refine pS (v := ?_) (a' := ?_) 13 (some 70) (lb 14 16383) rfl rfl (by kernel_rfl) (fun _ _ _ h => h) (by rfl) ?_ ?_ ?_; rotate_left; (intro w'; go_simp; with_reducible rfl); rotate_left; (simp only [Act.put, List.setIfInBounds_toArray, List.set_cons_zero, List.set_cons_succ, i64_w, i32_w]; rfl)
              refine done_ (by kernel_rfl) ?_
              go_wp2_with fail
              go_roundg ko
              case rel => exact ⟨i + 1, _, rfl, by first | rfl | rw [wi], ⟨by have := HK.out; have := q1.out; omega⟩, ⟨below_drew HB2.out⟩, ⟨by rw [FN3.out, ← E.out]; exact Kd.R_drew HR2.out⟩⟩
              case measure => exact Nat.lt_succ_self _
          · have t4 : decide (K > 0) = false := decide_eq_false hk
            have E := Aside0.mk (DN.out K.toNat (by have := HK2.out; omega) (.inl (by have := HK2.out; omega)) (fun j h1 h2 => HY.out j (by have := HK2.out; omega) h2))
            clear hk
            go_wp2_with fail
            refine start_ (n := 14) (S := fun w' => True) (ds := []) (lb 14 0) (by kernel_rfl) rfl rfl trivial (fun hHeld => ?_)
            refine pS (v := ?_) (a' := ?_) 0 (some 57) (lb 14 1) rfl rfl (by kernel_rfl) (fun _ _ _ h => h) (by rfl) ?_ ?_ ?_; rotate_left; (intro w'; go_simp; with_reducible rfl); rotate_left; (simp only [Act.put, List.setIfInBounds_toArray, List.set_cons_zero, List.set_cons_succ, i64_w, i32_w]; rfl)
            refine pS (v := ?_) (a' := ?_) 1 (some 58) (lb 14 3) rfl rfl (by kernel_rfl) (fun _ _ _ h => h) (by rfl) ?_ ?_ ?_; rotate_left; (intro w'; go_simp; with_reducible rfl); rotate_left; (simp only [Act.put, List.setIfInBounds_toArray, List.set_cons_zero, List.set_cons_succ, i64_w, i32_w]; rfl)
            refine pS (v := ?_) (a' := ?_) 2 (some 59) (lb 14 7) rfl rfl (by kernel_rfl) (fun _ _ _ h => h) (by rfl) ?_ ?_ ?_; rotate_left; (intro w'; go_simp; with_reducible rfl); rotate_left; (simp only [Act.put, List.setIfInBounds_toArray, List.set_cons_zero, List.set_cons_succ, i64_w, i32_w]; rfl)
            refine pO (a' := ?_) 3 (some 60) (lb 14 15) rfl rfl (by kernel_rfl) (fun _ _ _ h => h) (by rfl) ?_ ?_; rotate_left; (simp only [Act.put, List.setIfInBounds_toArray, List.set_cons_zero, List.set_cons_succ, i64_w, i32_w]; rfl)
            refine pO (a' := ?_) 4 (some 61) (lb 14 31) rfl rfl (by kernel_rfl) (fun _ _ _ h => h) (by rfl) ?_ ?_; rotate_left; (simp only [Act.put, List.setIfInBounds_toArray, List.set_cons_zero, List.set_cons_succ, i64_w, i32_w]; rfl)
            refine pO (a' := ?_) 5 (some 62) (lb 14 63) rfl rfl (by kernel_rfl) (fun _ _ _ h => h) (by rfl) ?_ ?_; rotate_left; (simp only [Act.put, List.setIfInBounds_toArray, List.set_cons_zero, List.set_cons_succ, i64_w, i32_w]; rfl)
            refine pO (a' := ?_) 6 (some 63) (lb 14 127) rfl rfl (by kernel_rfl) (fun _ _ _ h => h) (by rfl) ?_ ?_; rotate_left; (simp only [Act.put, List.setIfInBounds_toArray, List.set_cons_zero, List.set_cons_succ, i64_w, i32_w]; rfl)
            refine pO (a' := ?_) 7 (some 64) (lb 14 255) rfl rfl (by kernel_rfl) (fun _ _ _ h => h) (by rfl) ?_ ?_; rotate_left; (simp only [Act.put, List.setIfInBounds_toArray, List.set_cons_zero, List.set_cons_succ, i64_w, i32_w]; rfl)
            refine pO (a' := ?_) 8 (some 65) (lb 14 511) rfl rfl (by kernel_rfl) (fun _ _ _ h => h) (by rfl) ?_ ?_; rotate_left; (simp only [Act.put, List.setIfInBounds_toArray, List.set_cons_zero, List.set_cons_succ, i64_w, i32_w]; rfl)
            refine pO (a' := ?_) 9 (some 66) (lb 14 1023) rfl rfl (by kernel_rfl) (fun _ _ _ h => h) (by rfl) ?_ ?_; rotate_left; (simp only [Act.put, List.setIfInBounds_toArray, List.set_cons_zero, List.set_cons_succ, i64_w, i32_w]; rfl)
            refine pO (a' := ?_) 10 (some 67) (lb 14 2047) rfl rfl (by kernel_rfl) (fun _ _ _ h => h) (by rfl) ?_ ?_; rotate_left; (simp only [Act.put, List.setIfInBounds_toArray, List.set_cons_zero, List.set_cons_succ, i64_w, i32_w]; rfl)
            refine pO (a' := ?_) 11 (some 68) (lb 14 4095) rfl rfl (by kernel_rfl) (fun _ _ _ h => h) (by rfl) ?_ ?_; rotate_left; (simp only [Act.put, List.setIfInBounds_toArray, List.set_cons_zero, List.set_cons_succ, i64_w, i32_w]; rfl)
            refine pO (a' := ?_) 12 (some 69) (lb 14 8191) rfl rfl (by kernel_rfl) (fun _ _ _ h => h) (by rfl) ?_ ?_; rotate_left; (simp only [Act.put, List.setIfInBounds_toArray, List.set_cons_zero, List.set_cons_succ, i64_w, i32_w]; rfl)
            refine pS (v := ?_) (a' := ?_) 13 (some 70) (lb 14 16383) rfl rfl (by kernel_rfl) (fun _ _ _ h => h) (by rfl) ?_ ?_ ?_; rotate_left; (intro w'; go_simp; with_reducible rfl); rotate_left; (simp only [Act.put, List.setIfInBounds_toArray, List.set_cons_zero, List.set_cons_succ, i64_w, i32_w]; rfl)
            refine done_ (by kernel_rfl) ?_
            go_wp2_with fail
            go_roundg ko
            case rel => exact ⟨i + 1, _, rfl, by first | rfl | rw [wi], ⟨by have := HK.out; have := q1.out; omega⟩, ⟨below_drew HB2.out⟩, ⟨by rw [FN3.out, ← E.out]; exact Kd.R_drew HR2.out⟩⟩
            case measure => exact Nat.lt_succ_self _
      · have t3 : (z == i + 1) = false := beq_eq_false_iff_ne.2 hf
        have FN2 := Aside0.mk (FN.out.trans (if_neg (fun h => hf (HD.out.2 h))))
        clear hf
        go_wp2_with fail
        go_roundg ko
        case rel => exact ⟨i + 1, _, rfl, by first | rfl | rw [wi], ⟨by have := HK.out; have := q1.out; omega⟩, B3, ⟨by rw [FN2.out]; exact R3.out⟩⟩
        case measure => exact Nat.lt_succ_self _
    · have t1 : decide (i < (row.length : Int)) = false := decide_eq_false hi
      have E := Aside0.mk (show i.toNat = row.length by have := HK.out; omega)
      clear hi
      go_wp2_with fail
      go_ret
      refine ⟨v, rfl, ?_, HB.out⟩
      rw [← E.out]
      exact HR.out
end Go.Proofs.Ytlpnggapndokeaa.PIdealKeeps

namespace Go.Proofs.Ytlpnggapndokeaa.PIdealKeeps
open Go Go.RowKit Go.Proofs.YtlpnggapndokeaaW.PrintWords Go.Proofs.YtlpnggapndokeaaW.PrintLast Go.Proofs.YtlpnggapndokeaaW.PrintMore Go.Proofs.Ytlpnggapndokeaa.M
set_option linter.unusedVariables false
set_option linter.unusedSimpArgs false
/-- Who slots are, and the reference, beside each other. -/
structure Ref6 (w0 w : World) (gs g3 gu : Nat) (v vR : Value) (now : List (Int × Int)) (row : List Int) : Prop where
  S : SoulIs w0 w gs g3 v now row
  blk : w.heap[gu]? = some (.cells #[vR] 58 (0, 0))
  R : (Kd.int .i64).R 3 w w0.heap.size (fun _ => True) vR row
  ap : ∀ k, v.ownBlock = some k → vR.ownBlock ≠ some k
  b : w0.heap.size ≤ gu
section
variable {w0 w w1 : World} {gs g3 gu : Nat} {v v' vR vR' : Value} {now now' : List (Int × Int)} {row row' : List Int} {S : Nat → Obj → Prop}
theorem Ref6.below (h : Ref6 w0 w gs g3 gu v vR now row) (hb : Below w.heap.size w w1) : Ref6 w0 w1 gs g3 gu v vR now row := ⟨h.S.below hb, blk_below h.blk hb, Kd.R_below h.R hb, h.ap, h.b⟩
theorem Ref6.drew (h : Ref6 w0 w gs g3 gu v vR now row) : Ref6 w0 w.drew gs g3 gu v vR now row := h.below (below_drew (Below.refl _ _))
theorem own_typed3 {base : Nat} {ok : Nat → Prop} {u : Value} {xs : List Int} (h : (Kd.int .i64).R 3 w base ok u xs) {p : Nat} {cs : Array Value} {t : TypeId} (hb : w.heap[p]? = some (.cells cs t (0, 0))) (ht : t ≠ 3) : some p ≠ u.ownBlock := by
  intro e
  obtain ⟨cells, hc⟩ := Kd.R_typed h p e.symm
  rw [hb] at hc
  injection hc with hc
  injection hc with _ hc
  exact ht hc
/-- Between the two births: the one row is longer. -/
structure Ref6h (w0 w : World) (gs g3 gu : Nat) (v vR : Value) (now : List (Int × Int)) (row rowR : List Int) : Prop where
  S : SoulIs w0 w gs g3 v now row
  blk : w.heap[gu]? = some (.cells #[vR] 58 (0, 0))
  R : (Kd.int .i64).R 3 w w0.heap.size (fun _ => True) vR rowR
  ap : ∀ k, v.ownBlock = some k → vR.ownBlock ≠ some k
  b : w0.heap.size ≤ gu
theorem Ref6h.drew {rowR : List Int} (h : Ref6h w0 w gs g3 gu v vR now row rowR) : Ref6h w0 w.drew gs g3 gu v vR now row rowR := ⟨h.S.drew, blk_drew h.blk, Kd.R_drew h.R, h.ap, h.b⟩
theorem Ref6.sB (h : Ref6 w0 w gs g3 gu v vR now row) (h1 : SoulIs w0 w1 gs g3 v' now' row') (ho : v'.ownBlock = v.ownBlock ∨ ∃ b, v'.ownBlock = some b ∧ w.heap.size ≤ b) (hf : Fr (SoulU gs g3 v) w w1) : Ref6h w0 w1 gs g3 gu v' vR now' row' row := by
  refine ⟨h1, hf.blk h.blk ?_, row_kept rfl h.R hf (fun k o hk hj ht => ?_), ?_, h.b⟩
  · rintro (e | e | e)
    · subst e; exact blk_ne h.blk h.S.blk (by decide) rfl
    · exact mapIs_ne h.S.map h.blk e
    · exact own_typed3 h.S.row h.blk (by decide) e
  · obtain ⟨cs, rfl⟩ := ht
    rintro (e | e | e)
    · subst e; exact blk_ne hj h.S.blk (by decide) rfl
    · exact mapIs_ne h.S.map hj e
    · exact h.ap k e.symm hk
  · intro k hk hk2
    rcases ho with ho | ⟨b, ho, hb⟩
    · exact h.ap k (ho ▸ hk) hk2
    · rw [ho] at hk
      injection hk with hk
      have := Kd.R_lt h.R k hk2
      omega
theorem Ref6h.rB {rowR : List Int} {r : Value} {e : Ending} (h : Ref6h w0 w gs g3 gu v vR now row rowR) (hp : RPost w0 w w0.heap.size gu #[vR] 58 0 vR row r e w1) : ∃ vR', Ref6 w0 w1 gs g3 gu v vR' now row := by
  obtain ⟨_, vR', h1, h2, h3, h4, h5⟩ := hp
  refine ⟨vR', ⟨?_, ?_, ?_, h.S.b1, h.S.b2⟩, h2, h1, ?_, h.b⟩
  · refine (h4.2 gs (blk_lt h.S.blk) (fun e => ?_) (own_typed3 h.R h.S.blk (by decide))).trans h.S.blk
    subst e; exact blk_ne h.blk h.S.blk (by decide) rfl
  · obtain ⟨es, c, hb, he⟩ := h.S.map
    refine ⟨es, c, (h4.2 g3 (blk_lt hb) (fun e => ?_) (fun e => ?_)).trans hb, he⟩
    · subst e; rw [h.blk] at hb; cases hb
    · obtain ⟨cells, hc⟩ := Kd.R_typed h.R g3 e.symm
      rw [hb] at hc; cases hc
  · refine row_kept rfl h.S.row (keep_fr (S := fun j _ => j = gu ∨ some j = vR.ownBlock) h4 (fun j o hj x => x)) (fun k o hk hj ht x => ?_)
    rcases x with x | x
    · subst x
      exact own_typed3 h.S.row h.blk (by decide) hk.symm
    · exact h.ap k hk x.symm
  · intro k hk hk2
    rcases h5 with h5 | ⟨b, h5, hb⟩
    · exact h.ap k hk (h5 ▸ hk2)
    · rw [h5] at hk2
      injection hk2 with hk2
      have := Kd.R_lt h.S.row k hk
      omega
end
/-- The map tells what the row does. -/
structure Rel6 (now : List (Int × Int)) (row : List Int) : Prop where
  keys : now.map (·.1) = firsts row row.length
  tell : ∀ s, (get now s).getD 0 = nowR row s
  wf : ∀ p ∈ now, (Lit.int .i64 p.1).wf = true
theorem put_keys (m : List (Int × Int)) (k x : Int) : (put m k x).map (·.1) = if k ∈ m.map (·.1) then m.map (·.1) else m.map (·.1) ++ [k] := by
  induction m with
  | nil => rfl
  | cons p r ih =>
    by_cases h : k = p.1
    · simp only [put, if_pos h, List.map_cons, List.mem_cons, h, true_or, if_true]
    · simp only [put, if_neg h, List.map_cons, List.mem_cons, ih]
      by_cases h2 : k ∈ r.map (·.1)
      · rw [if_pos h2, if_pos (.inr h2)]
      · rw [if_neg h2, if_neg (by rintro (e | e); exact h e; exact h2 e)]
        rfl
theorem rel6_0 : Rel6 [] [] := ⟨rfl, fun _ => rfl, fun _ h => by cases h⟩
theorem Rel6.born {now : List (Int × Int)} {row : List Int} (h : Rel6 now row) (slot : Int) (hw : (Lit.int .i64 slot).wf = true) : Rel6 (bornNow now row slot) (bornRow row slot) := by
  unfold bornNow bornRow
  by_cases hs : slot < 1
  · rw [if_pos hs, if_pos hs]; exact h
  · rw [if_neg hs, if_neg hs]
    refine ⟨?_, fun s => ?_, fun p hp => ?_⟩
    · rw [put_keys, h.keys, List.length_append, List.length_singleton, firsts_snoc]
      by_cases e : nowR row slot = 0
      · rw [if_pos e, if_neg (fun x => (mem_firsts row slot _).1 x e)]
      · rw [if_neg e, if_pos ((mem_firsts row slot _).2 e)]
    · rw [M.get_put, nowR_app]
      by_cases e : s = slot
      · rw [if_pos e, if_pos e.symm]; rfl
      · rw [if_neg e, if_neg (fun q => e q.symm)]; exact h.tell s
    · have hk : p.1 ∈ (put now slot ((row.length : Int) + 1)).map (·.1) := List.mem_map.2 ⟨p, hp, rfl⟩
      rw [put_keys] at hk
      split at hk
      · obtain ⟨q, hq, e⟩ := List.mem_map.1 hk
        rw [← e]; exact h.wf q hq
      · rw [List.mem_append, List.mem_singleton] at hk
        rcases hk with hk | hk
        · obtain ⟨q, hq, e⟩ := List.mem_map.1 hk
          rw [← e]; exact h.wf q hq
        · rw [hk]; exact hw
theorem Rel6.len {now : List (Int × Int)} {row : List Int} (h : Rel6 now row) : now.length ≤ row.length := by
  have := congrArg List.length h.keys
  have h2 := firsts_len row row.length
  rw [List.length_map] at this
  omega
end Go.Proofs.Ytlpnggapndokeaa.PIdealKeeps
namespace Go.Proofs.Ytlpnggapndokeaa.PIdealKeeps
open Go Go.RowKit Go.Proofs.YtlpnggapndokeaaW.PrintWords Go.Proofs.YtlpnggapndokeaaW.PrintLast Go.Proofs.YtlpnggapndokeaaW.PrintMore Go.Proofs.Ytlpnggapndokeaa.M
theorem r6now_T {w0 w : World} {gs g3 gu : Nat} {v vR : Value} {now : List (Int × Int)} {row : List Int} (h : Ref6 w0 w gs g3 gu v vR now row) (slot : Int) (hl : row.length ≤ 100000) :
    Calls Try.prog 71 #[.pointer (some ⟨gu, 0, none⟩), .int .i64 slot] w fun e w' => e = .returned (.int .i64 (nowR row slot)) ∧ Below w.heap.size w w' := by
  obtain ⟨A, c, rfl, _, hC⟩ := Kd.R_reads h.R
  exact rnow_T gu 0 A c row slot w ((blk_cell h.blk 0).trans rfl) hC hl
theorem r6all_T {w0 w : World} {gs g3 gu : Nat} {v vR : Value} {now : List (Int × Int)} {row : List Int} (h : Ref6 w0 w gs g3 gu v vR now row) (slot : Int) (hl : row.length ≤ 100000) :
    Calls Try.prog 76 #[.pointer (some ⟨gu, 0, none⟩), .int .i64 slot] w fun e w' => ∃ u, e = .returned u ∧ (Kd.int .i64).R 3 w' w.heap.size (fun _ => True) u (allF row slot row.length) ∧ Below w.heap.size w w' := by
  obtain ⟨A, c, rfl, _, hC⟩ := Kd.R_reads h.R
  exact rall_T gu 0 A c row slot w ((blk_cell h.blk 0).trans rfl) hC hl
theorem r6slots_T {w0 w : World} {gs g3 gu : Nat} {v vR : Value} {now : List (Int × Int)} {row : List Int} (h : Ref6 w0 w gs g3 gu v vR now row) (hl : row.length ≤ 100000) :
    Calls Try.prog 78 #[.pointer (some ⟨gu, 0, none⟩)] w fun e w' => ∃ u, e = .returned u ∧ (Kd.int .i64).R 3 w' w.heap.size (fun _ => True) u ((firsts row row.length).mergeSort leZ) ∧ Below w.heap.size w w' := by
  obtain ⟨A, c, rfl, _, hC⟩ := Kd.R_reads h.R
  exact rslots_T gu 0 A c row w ((blk_cell h.blk 0).trans rfl) hC hl
theorem s6slots_T {w0 w : World} {gs g3 gu : Nat} {v vR : Value} {now : List (Int × Int)} {row : List Int} (h : Ref6 w0 w gs g3 gu v vR now row) (hR : Rel6 now row) (hl : row.length ≤ 100000) :
    Calls Try.prog 77 #[.pointer (some ⟨gs, 0, none⟩)] w fun e w' => ∃ u, e = .returned u ∧ (Kd.int .i64).R 3 w' w.heap.size (fun _ => True) u ((firsts row row.length).mergeSort leZ) ∧ Below w.heap.size w w' := by
  have := soulSlots_T gs g3 v now row w0 w h.S hR.wf (Nat.le_trans hR.len hl)
  rw [hR.keys] at this
  exact this
end Go.Proofs.Ytlpnggapndokeaa.PIdealKeeps

