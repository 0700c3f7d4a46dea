/-
awake of layer 9 answers true.
-/
import Derived.Test.YtlpnggapndokeaaIdealB
namespace Go.Proofs.Ytlpnggapndokeaa.PIdealKeeps
open Go Go.RowKit Go.Proofs.YtlpnggapndokeaaW.PrintWords Go.Proofs.YtlpnggapndokeaaW.PrintLast Go.Proofs.YtlpnggapndokeaaW.PrintMore Go.Proofs.Ytlpnggapndokeaa.M
attribute [local go_sem] max2_int min2_int max_two min_two max_three min_three max_four min_four
set_option linter.unusedVariables false
set_option linter.unusedSimpArgs false
theorem IdealIs.stays {w0 w w1 : World} {gi g1 g2 gs g3 : Nat} {A : ISt} (h : IdealIs w0 w gi g1 g2 gs g3 A) (hf : Fr (IdealS gi g1 g2 gs g3) w w1) {p : Nat} {cs : Array Value} {t : TypeId} (hb : w.heap[p]? = some (.cells cs t (0, 0))) (h1 : t ≠ 103) (h2 : t ≠ 114) (h3 : t ≠ 3) : w1.heap[p]? = some (.cells cs t (0, 0)) := by
  refine hf.blk hb (fun hS => ?_)
  obtain ⟨v, hv⟩ := h.soul
  rcases hS with e | e | e | e | e | ⟨cells, e⟩
  · subst e
    exact blk_ne hb h.blk h1 rfl
  · exact mapIs_ne h.words hb e
  · exact mapIs_ne h.leads hb e
  · subst e
    exact blk_ne hb hv.blk h2 rfl
  · exact mapIs_ne hv.map hb e
  · injection e with _ e
    exact h3 e
theorem eq28 (d : Nat) (w : World) (a a' : Int) (b b' : Int) (c c' : Bool) : (Op.equalIn (d + 2) 28 (.agg #[.int .u64 a, .int .i64 b, .bool c]) (.agg #[.int .u64 a', .int .i64 b', .bool c'])).run Try.prog w = .ok (a == a' && (b == b' && (c == c'))) w :=
  eqA_of Try.underlying28 (by kernel_rfl) (eqf_cons (by rfl) (a := .int .u64 a) (b := .int .u64 a') (by kernel_rfl) (by kernel_rfl) (run_equalIn_int w d 26 .u64 .u64 a a' Try.underlying26)
    (eqf_cons (by rfl) (a := .int .i64 b) (b := .int .i64 b') (by kernel_rfl) (by kernel_rfl) (run_equalIn_int w d 3 .i64 .i64 b b' Try.underlying3)
    (eqf_last (by rfl) (a := .bool c) (b := .bool c') (by kernel_rfl) (by kernel_rfl) (run_equalIn_bool w d 4 c c' Try.underlying4))))
theorem eq38 (d : Nat) (w : World) (a a' : Int) (b b' : Int) (c c' : Int) (p p' : Int) (e e' : Int) : (Op.equalIn (d + 2) 38 (.agg #[.int .i64 a, .int .i64 b, .int .i64 c, .int .i64 p, .int .i64 e]) (.agg #[.int .i64 a', .int .i64 b', .int .i64 c', .int .i64 p', .int .i64 e'])).run Try.prog w = .ok (a == a' && (b == b' && (c == c' && (p == p' && (e == e'))))) w :=
  eqA_of Try.underlying38 (by kernel_rfl) (eqf_cons (by rfl) (a := .int .i64 a) (b := .int .i64 a') (by kernel_rfl) (by kernel_rfl) (run_equalIn_int w d 3 .i64 .i64 a a' Try.underlying3)
    (eqf_cons (by rfl) (a := .int .i64 b) (b := .int .i64 b') (by kernel_rfl) (by kernel_rfl) (run_equalIn_int w d 3 .i64 .i64 b b' Try.underlying3)
    (eqf_cons (by rfl) (a := .int .i64 c) (b := .int .i64 c') (by kernel_rfl) (by kernel_rfl) (run_equalIn_int w d 3 .i64 .i64 c c' Try.underlying3)
    (eqf_cons (by rfl) (a := .int .i64 p) (b := .int .i64 p') (by kernel_rfl) (by kernel_rfl) (run_equalIn_int w d 3 .i64 .i64 p p' Try.underlying3)
    (eqf_last (by rfl) (a := .int .i64 e) (b := .int .i64 e') (by kernel_rfl) (by kernel_rfl) (run_equalIn_int w d 3 .i64 .i64 e e' Try.underlying3))))))
set_option maxHeartbeats 8000000 in
set_option maxRecDepth 100000 in
theorem awake09_T (w : World) : Calls Try.prog 15 #[] w fun e w' => e = .returned (.bool true) ∧ Below w.heap.size w w' := by
  have hu25 := Try.underlying25
  have hu28 := Try.underlying28
  have hu38 := Try.underlying38
  have hu23 := Try.underlying23
  have e28 := eq28
  have e38 := eq38
  go_enter Try.func15, Try.ntmps15
  go_wp2_with fail
  refine (inew_T w).mono ?_
  rintro e w1 ⟨gi, g1, g2, gs, g3, rfl, h1, h2⟩
  have I := Aside0.mk h1
  have B := Aside0.mk h2
  clear h1 h2
  go_wp2_with fail
  refine (iborn_T gi g1 g2 gs g3 A0 3 w w1 I.out B.out (by decide)).mono ?_
  rintro e w2 ⟨rfl, h1, h2, h3⟩
  clear I B h3
  have I := Aside0.mk h1
  have B := Aside0.mk h2
  clear h1 h2
  go_wp2_with fail
  refine (place_Of.calls 3 3 5 3 3 w2 rfl).mono ?_
  rintro e w3 ⟨rfl, hb⟩
  have I3 := Aside0.mk ((I.out.below hb).alloc (.cells #[.int .i64 5, .int .i64 3, .int .i64 3, .int .i64 1] 25))
  have B3 := Aside0.mk (below_alloc (below_step B.out hb) (.cells #[.int .i64 5, .int .i64 3, .int .i64 3, .int .i64 1] 25))
  have GA := Aside0.mk (blk_new w3 (.cells #[.int .i64 5, .int .i64 3, .int .i64 3, .int .i64 1] 25))
  clear I B hb
  go_wp2_with fail
  generalize w3.alloc (.cells #[.int .i64 5, .int .i64 3, .int .i64 3, .int .i64 1] 25) = w4 at *
  generalize w3.heap.size = ga at *
  refine (istore_T gi g1 g2 gs g3 _ 5 3 3 1 5 8 false w w4 I3.out B3.out).mono ?_
  rintro e w5 ⟨rfl, h1, h2, h3⟩
  have GA5 := Aside0.mk (I3.out.stays h3 GA.out (by decide) (by decide) (by decide))
  have I := Aside0.mk h1
  have B := Aside0.mk h2
  clear h1 h2 h3 I3 B3 GA
  go_wp2_with fail
  refine (iborn_T gi g1 g2 gs g3 _ 3 w w5 I.out B.out (by decide)).mono ?_
  rintro e w6 ⟨rfl, h1, h2, h3⟩
  have GA := Aside0.mk (I.out.stays h3 GA5.out (by decide) (by decide) (by decide))
  have a0 : w6.cell? ⟨ga, 0, none⟩ = some (.int .i64 5) := (blk_cell GA.out 0).trans rfl
  have a1 : w6.cell? ⟨ga, 1, none⟩ = some (.int .i64 3) := (blk_cell GA.out 1).trans rfl
  have a2 : w6.cell? ⟨ga, 2, none⟩ = some (.int .i64 3) := (blk_cell GA.out 2).trans rfl
  have GA6 := Aside0.mk (blk_alloc GA.out (.cells #[.int .i64 5, .int .i64 3, .int .i64 3, .int .i64 2] 25))
  have GB6 := Aside0.mk (blk_new w6 (.cells #[.int .i64 5, .int .i64 3, .int .i64 3, .int .i64 2] 25))
  have I6 := Aside0.mk (IdealIs.alloc h1 (.cells #[.int .i64 5, .int .i64 3, .int .i64 3, .int .i64 2] 25))
  have B6 := Aside0.mk (below_alloc h2 (.cells #[.int .i64 5, .int .i64 3, .int .i64 3, .int .i64 2] 25))
  have c0 : (w6.alloc (.cells #[.int .i64 5, .int .i64 3, .int .i64 3, .int .i64 2] 25)).cell? ⟨ga, 0, none⟩ = some (.int .i64 5) := (blk_cell GA6.out 0).trans rfl
  have c1 : (w6.alloc (.cells #[.int .i64 5, .int .i64 3, .int .i64 3, .int .i64 2] 25)).cell? ⟨ga, 1, none⟩ = some (.int .i64 3) := (blk_cell GA6.out 1).trans rfl
  have c2 : (w6.alloc (.cells #[.int .i64 5, .int .i64 3, .int .i64 3, .int .i64 2] 25)).cell? ⟨ga, 2, none⟩ = some (.int .i64 3) := (blk_cell GA6.out 2).trans rfl
  have c3 : (w6.alloc (.cells #[.int .i64 5, .int .i64 3, .int .i64 3, .int .i64 2] 25)).cell? ⟨ga, 3, none⟩ = some (.int .i64 1) := (blk_cell GA6.out 3).trans rfl
  clear h1 h2 h3 I B GA GA5
  go_wp2_with fail
  clear a0 a1 a2 c0 c1 c2 c3
  generalize w6.alloc (.cells #[.int .i64 5, .int .i64 3, .int .i64 3, .int .i64 2] 25) = w7 at *
  generalize w6.heap.size = gb at *
  obtain ⟨A, hA⟩ : ∃ A, bornA (storeA (bornA A0 3) (ofK 5 3 3 1) 5 8) 3 = A := ⟨_, rfl⟩
  have V1 := Aside0.mk (show (get A.words (ofK 5 3 3 1)).getD 0 = 5 by rw [← hA]; decide)
  have V2 := Aside0.mk (show (get A.leads (ofK 5 3 3 1)).getD 0 = 8 by rw [← hA]; decide)
  have V3 := Aside0.mk (show (get A.words (ofK 5 3 3 2)).getD 0 = 0 by rw [← hA]; decide)
  have V4 := Aside0.mk (show (get A.leads (ofK 5 3 3 2)).getD 0 = 0 by rw [← hA]; decide)
  have V5 := Aside0.mk (show contentR A 1 3 = 5 by rw [← hA]; decide)
  have V6 := Aside0.mk (show peekR A 5 3 3 = 0 by rw [← hA]; decide)
  have V7 := Aside0.mk (show A.c1 = 0 ∧ A.c2 = 1 ∧ A.c3 = 0 ∧ A.c4 = 0 ∧ A.c5 = 0 by rw [← hA]; exact ⟨rfl, by show wrap64 (0 + 1) = 1; unfold wrap64; omega, rfl, rfl, rfl⟩)
  have I := Aside0.mk (show IdealIs w w7 gi g1 g2 gs g3 A from hA ▸ I6.out)
  clear I6 hA
  refine (iload_T gi g1 g2 gs g3 A 5 3 3 1 w w7 I.out B6.out).mono ?_
  rintro e w8 ⟨rfl, h1, h2, h3⟩
  rw [V1.out, V2.out]
  have GA := Aside0.mk (I.out.stays h3 GA6.out (by decide) (by decide) (by decide))
  have GB := Aside0.mk (I.out.stays h3 GB6.out (by decide) (by decide) (by decide))
  have I8 := Aside0.mk h1
  have B := Aside0.mk h2
  clear h1 h2 h3 GA6 GB6 I B6
  have c0 : w8.cell? ⟨gb, 0, none⟩ = some (.int .i64 5) := (blk_cell GB.out 0).trans rfl
  have c1 : w8.cell? ⟨gb, 1, none⟩ = some (.int .i64 3) := (blk_cell GB.out 1).trans rfl
  have c2 : w8.cell? ⟨gb, 2, none⟩ = some (.int .i64 3) := (blk_cell GB.out 2).trans rfl
  have c3 : w8.cell? ⟨gb, 3, none⟩ = some (.int .i64 2) := (blk_cell GB.out 3).trans rfl
  go_wp2_with fail
  refine (iload_T gi g1 g2 gs g3 _ 5 3 3 2 w w8 I8.out B.out).mono ?_
  rintro e w9 ⟨rfl, h1, h2, h3⟩
  rw [show (get (loadA A).words (ofK 5 3 3 2)).getD 0 = 0 from V3.out, show (get (loadA A).leads (ofK 5 3 3 2)).getD 0 = 0 from V4.out]
  have GA9 := Aside0.mk (I8.out.stays h3 GA.out (by decide) (by decide) (by decide))
  have I9 := Aside0.mk h1
  have B9 := Aside0.mk h2
  clear h1 h2 h3 GA GB I8 B c0 c1 c2 c3
  go_wp2_with fail
  refine (icontent_T gi g1 g2 gs g3 _ 1 3 w w9 I9.out).mono ?_
  rintro e w10 ⟨rfl, hb⟩
  rw [show contentR (loadA (loadA A)) 1 3 = 5 from V5.out]
  have GA := Aside0.mk (blk_below GA9.out hb)
  have I := Aside0.mk (I9.out.below hb)
  have B := Aside0.mk (below_step B9.out hb)
  clear hb I9 B9 GA9
  have c0 : w10.cell? ⟨ga, 0, none⟩ = some (.int .i64 5) := (blk_cell GA.out 0).trans rfl
  have c1 : w10.cell? ⟨ga, 1, none⟩ = some (.int .i64 3) := (blk_cell GA.out 1).trans rfl
  have c2 : w10.cell? ⟨ga, 2, none⟩ = some (.int .i64 3) := (blk_cell GA.out 2).trans rfl
  go_wp2_with fail
  refine (ipeek_T gi g1 g2 gs g3 _ 5 3 3 w w10 I.out).mono ?_
  rintro e w11 ⟨rfl, hb⟩
  rw [show peekR (loadA (loadA A)) 5 3 3 = 0 from V6.out]
  have I11 := Aside0.mk (I.out.below hb)
  have B11 := Aside0.mk (below_step B.out hb)
  clear hb I B GA c0 c1 c2
  go_wp2_with fail
  refine (icount_T gi g1 g2 gs g3 _ w w11 I11.out).mono ?_
  rintro e w12 ⟨rfl, hb⟩
  rw [show (loadA (loadA A)).c1 = 2 by simp only [loadA, V7.out.1]; unfold wrap64; omega, show (loadA (loadA A)).c2 = 1 from V7.out.2.1, show (loadA (loadA A)).c3 = 0 from V7.out.2.2.1, show (loadA (loadA A)).c4 = 0 from V7.out.2.2.2.1, show (loadA (loadA A)).c5 = 0 from V7.out.2.2.2.2]
  have B12 := Aside0.mk (below_step B11.out hb)
  clear hb I11 B11
  go_wp2_with fail
  go_ret
  exact ⟨rfl, B12.out⟩
end Go.Proofs.Ytlpnggapndokeaa.PIdealKeeps

