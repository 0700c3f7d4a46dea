import Derived.Test.YtinmmnljicmppaaDoorVTaleU
/-
awake: the answers that the document fixes.
-/
namespace Go.Proofs.YtinmmnljicmppaaDoor.PTaleApart
open Go Go.RowKit Go.Proofs.YtinmmnljicmppaaDoorW.PrintWords Go.Proofs.YtinmmnljicmppaaDoorW.PrintLast Go.Proofs.YtinmmnljicmppaaDoorW.PrintMore Go.Proofs.YtinmmnljicmppaaDoor.Str
attribute [local go_sem] max2_int min2_int max_two min_two max_three min_three max_four min_four
set_option linter.unusedVariables false
set_option linter.unusedSimpArgs false
theorem rd1_T (w : World) (ht : WT w) : Calls Tryd.prog 14 #[.string (⟨#[108, 105, 115, 116, 32, 52, 32, 57, 10, 48, 32, 105, 110, 115, 101, 114, 116, 32, 53, 10, 112, 105, 99, 107, 115, 32, 48, 42, 51, 10]⟩ : ByteArray)] w fun e_ w' => ∃ ov pv, e_ = .returned (.tuple #[.agg #[.int .i64 1, .int .i64 4, .int .i64 0, .int .i64 1, .int .i64 9, ov, pv], .int .i64 0, .int .i64 0]) ∧ Kd.S (Kd.slice 33 k33) 72 w' w.heap.size (fun _ => True) ov [[⟨1, 5, 0, 0⟩]] ∧ Kd.R (Kd.int .i64) 3 w' w.heap.size (fun _ => True) pv [0, 0, 0] ∧ Below w.heap.size w w' := by
 have h := read_T awT1 w ht
 rw [aw_read1] at h
 exact h
theorem rd2_T (w : World) (ht : WT w) : Calls Tryd.prog 14 #[.string (⟨#[108, 105, 115, 116, 32, 52, 32, 57, 10, 48, 32, 105, 110, 115, 101, 114, 116, 32, 32, 53, 10]⟩ : ByteArray)] w fun e_ w' => ∃ ov pv, e_ = .returned (.tuple #[.agg #[.int .i64 0, .int .i64 0, .int .i64 0, .int .i64 0, .int .i64 0, ov, pv], .int .i64 2, .int .i64 4]) ∧ Kd.S (Kd.slice 33 k33) 72 w' w.heap.size (fun _ => True) ov [] ∧ Kd.R (Kd.int .i64) 3 w' w.heap.size (fun _ => True) pv [] ∧ Below w.heap.size w w' := by
 have h := read_T awT2 w ht
 rw [aw_read2] at h
 exact h
theorem rd3_T (w : World) (ht : WT w) : Calls Tryd.prog 14 #[.string (⟨#[108, 105, 115, 116, 32, 52, 32, 57, 10]⟩ : ByteArray)] w fun e_ w' => ∃ ov pv, e_ = .returned (.tuple #[.agg #[.int .i64 0, .int .i64 0, .int .i64 0, .int .i64 0, .int .i64 0, ov, pv], .int .i64 2, .int .i64 4]) ∧ Kd.S (Kd.slice 33 k33) 72 w' w.heap.size (fun _ => True) ov [] ∧ Kd.R (Kd.int .i64) 3 w' w.heap.size (fun _ => True) pv [] ∧ Below w.heap.size w w' := by
 have h := read_T awT3 w ht
 rw [aw_read3] at h
 exact h
set_option maxHeartbeats 64000000 in
set_option maxRecDepth 100000 in
theorem awake_T (w : World) (ht : WT w) : Calls Tryd.prog 5 #[] w fun e_ w' => e_ = .returned (.bool true) ∧ Below w.heap.size w w' := by
 have hu1 := Tryd.underlying47
 have hu2 := Tryd.underlying31
 have hu3 := Tryd.underlying25
 have HT := Aside0.mk ht
 have h1 := rd1_T w ht
 clear ht
 go_enter Tryd.func5, Tryd.ntmps5
 go_wp2_with fail
 refine h1.mono ?_
 rintro e_ w1 ⟨ov, pv, rfl, hS, hR, hb⟩
 obtain ⟨A5, c5, eo, hco, hCo⟩ := Kd.S_reads hS
 obtain ⟨A6, c6, ep, hcp, hCp⟩ := Kd.R_reads hR
 have eo' : ov = .slice A5 1 c5 := eo
 have ep' : pv = .slice A6 3 c6 := ep
 subst eo' ep'
 have HB1 := Aside0.mk hb
 have HC5 := Aside0.mk hCo
 have HC6 := Aside0.mk hCp
 have HL6 := Aside0.mk hcp
 clear h1 hS hR hb hCo hCp hco hcp eo ep
 have htx := fun (W : World) (hb : Below w.heap.size w W) (hb1 : Below w1.heap.size w1 W) => text_T 1 4 0 1 9 A5 c5 [[⟨1, 5, 0, 0⟩]] A6 c6 [0, 0, 0] W (HT.out.below hb) (Kd.C_below HC5.out hb1) (Kd.C_below HC6.out hb1) HL6.out (by
  intro l hl o ho
  obtain rfl := List.mem_singleton.1 hl
  obtain rfl := List.mem_singleton.1 ho
  exact ⟨by unfold U64; decide, by unfold U64; decide⟩)
 have htx : ∀ W, Below w.heap.size w W → Below w1.heap.size w1 W → Calls Tryd.prog 15 #[.agg #[.int .i64 1, .int .i64 4, .int .i64 0, .int .i64 1, .int .i64 9, .slice A5 1 c5, .slice A6 3 c6]] W fun e_ w' => e_ = .returned (.tuple #[.string (⟨#[108, 105, 115, 116, 32, 52, 32, 57, 10, 48, 32, 105, 110, 115, 101, 114, 116, 32, 53, 10, 112, 105, 99, 107, 115, 32, 48, 42, 51, 10]⟩ : ByteArray), .int .i64 0]) ∧ Below W.heap.size W w' := by
  intro W hb hb1
  have h := htx W hb hb1
  rw [aw_text] at h
  exact h
 go_wp2_with fail
 refine (htx _ (below_alloc HB1.out _) (below_alloc (Below.refl _ _) _)).mono ?_
 rintro e_ w2 ⟨rfl, hb⟩
 have HG2 := Aside0.mk (blk_below (blk_new w1 (.cells #[.int .i64 1, .int .i64 4, .int .i64 0, .int .i64 1, .int .i64 9, .slice A5 1 c5, .slice A6 3 c6] 47)) hb)
 have HB2 := Aside0.mk (below_step (below_alloc HB1.out (.cells #[.int .i64 1, .int .i64 4, .int .i64 0, .int .i64 1, .int .i64 9, .slice A5 1 c5, .slice A6 3 c6] 47)) hb)
 clear htx hb HB1 HC5 HC6 HL6
 have h2 := rd2_T w2 (HT.out.below HB2.out)
 go_wp2_with fail
 refine h2.mono ?_
 rintro e_ w3 ⟨ov, pv, rfl, hS, hR, hb⟩
 obtain ⟨B5, d5, eo⟩ := Kd.S_slice hS
 obtain ⟨B6, d6, ep⟩ := Kd.R_slice hR
 have eo' : ov = .slice B5 0 d5 := eo
 have ep' : pv = .slice B6 0 d6 := ep
 subst eo' ep'
 have HG3 := Aside0.mk (blk_below HG2.out hb)
 have HB3 := Aside0.mk (below_step HB2.out hb)
 clear h2 hb hS hR HG2 HB2 eo ep
 go_wp2_with fail
 refine (rd3_T _ (HT.out.below (below_alloc HB3.out _))).mono ?_
 rintro e_ w4 ⟨ov, pv, rfl, hS, hR, hb⟩
 obtain ⟨E5, f5, eo⟩ := Kd.S_slice hS
 obtain ⟨E6, f6, ep⟩ := Kd.R_slice hR
 have eo' : ov = .slice E5 0 f5 := eo
 have ep' : pv = .slice E6 0 f6 := ep
 subst eo' ep'
 have HG4 := Aside0.mk (blk_below (blk_alloc HG3.out (.cells #[.int .i64 0, .int .i64 0, .int .i64 0, .int .i64 0, .int .i64 0, .slice B5 0 d5, .slice B6 0 d6] 47)) hb)
 have HB4 := Aside0.mk (below_step (below_alloc HB3.out (.cells #[.int .i64 0, .int .i64 0, .int .i64 0, .int .i64 0, .int .i64 0, .slice B5 0 d5, .slice B6 0 d6] 47)) hb)
 clear hb hS hR HG3 HB3 eo ep
 have s1 : ∀ o, (w4.alloc o).cell? ⟨w1.heap.size, 1, none⟩ = some (.int .i64 4) := fun o => (blk_cell (blk_alloc HG4.out o) 1).trans rfl
 have s5 : ∀ o, (w4.alloc o).cell? ⟨w1.heap.size, 5, none⟩ = some (.slice A5 1 c5) := fun o => (blk_cell (blk_alloc HG4.out o) 5).trans rfl
 have s6 : ∀ o, (w4.alloc o).cell? ⟨w1.heap.size, 6, none⟩ = some (.slice A6 3 c6) := fun o => (blk_cell (blk_alloc HG4.out o) 6).trans rfl
 go_wp2_with fail
 refine (tale_Tell.calls 10 0 true 5 _ _ aw_tell1 HT.out (below_alloc HB4.out _)).mono ?_
 rintro e_ w5 ⟨rfl, hb⟩
 have HB5 := Aside0.mk (below_step (below_alloc HB4.out (.cells #[.int .i64 0, .int .i64 0, .int .i64 0, .int .i64 0, .int .i64 0, .slice E5 0 f5, .slice E6 0 f6] 47)) hb)
 clear hb
 go_wp2_with fail
 refine (tale_Tell.calls 10 6 false 0 _ _ aw_tell2 HT.out HB5.out).mono ?_
 rintro e_ w6 ⟨rfl, hb⟩
 have HB6 := Aside0.mk (below_step HB5.out hb)
 clear hb
 go_wp2_with fail
 go_ret
 exact ⟨rfl, HB6.out⟩
end Go.Proofs.YtinmmnljicmppaaDoor.PTaleApart
