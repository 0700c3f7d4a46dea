import Derived.Deep.LoopGhost
import Derived.Test.YtinmmnljicmppaaDoorVTaleQ
/-
tale.Read.
-/
namespace Go.Proofs.YtinmmnljicmppaaDoor.PTaleApart
open Go Go.RowKit Go.Proofs.YtinmmnljicmppaaDoorW.PrintWords Go.Proofs.YtinmmnljicmppaaDoorW.PrintLast Go.Proofs.YtinmmnljicmppaaDoorW.PrintMore Go.Proofs.YtinmmnljicmppaaDoor.Str
attribute [local go_sem] max2_int min2_int max_two min_two max_three min_three max_four min_four
set_option linter.unusedVariables false
set_option linter.unusedSimpArgs false
theorem blk_belowB {B g : Nat} {W W1 : World} {o : Obj} (h : W.heap[g]? = some o) (hb : Below B W W1) (hg : g < B) : W1.heap[g]? = some o := (hb.block g hg).trans h
theorem ops_ne47 : ∀ q, q ∈ 72 :: (Kd.slice 33 k33).E → q ≠ 47 := by
 intro q hq
 have : q = 72 ∨ q = 33 := by simpa [Kd.slice, k33, Kd.iso, Kd.pair, Kd.int, Kd.scalar] using hq
 omega
theorem ints_ne47 : ∀ q, q ∈ 3 :: (Kd.int .i64).E → q ≠ 47 := by
 intro q hq
 have : q = 3 := by simpa [Kd.int, Kd.scalar] using hq
 omega
def ReadIs (w w' : World) (e_ : Ending) (r : RS × Int × Int) : Prop := ∃ ov pv, e_ = .returned (.tuple #[.agg #[.int .i64 r.1.a, .int .i64 r.1.b, .int .i64 r.1.c, .int .i64 r.1.d, .int .i64 r.1.e, ov, pv], .int .i64 r.2.1, .int .i64 r.2.2]) ∧ Kd.S (Kd.slice 33 k33) 72 w' w.heap.size (fun _ => True) ov r.1.ops ∧ Kd.R (Kd.int .i64) 3 w' w.heap.size (fun _ => True) pv r.1.picks ∧ Below w.heap.size w w'
theorem read_none {w w' : World} {n m : Int} (h : Below w.heap.size w w') : ReadIs w w' (.returned (.tuple #[.agg #[.int .i64 0, .int .i64 0, .int .i64 0, .int .i64 0, .int .i64 0, .slice none 0 0, .slice none 0 0], .int .i64 n, .int .i64 m])) (RS.none, n, m) := ⟨_, _, rfl, Kd.S_nil _ _ _ _ _, Kd.R_nil _ _ _ _ _, h⟩
theorem read_none' {w w' : World} {n n' m : Int} (h : Below w.heap.size w w') (e : n = n') : ReadIs w w' (.returned (.tuple #[.agg #[.int .i64 0, .int .i64 0, .int .i64 0, .int .i64 0, .int .i64 0, .slice none 0 0, .slice none 0 0], .int .i64 n, .int .i64 m])) (RS.none, n', m) := by
 subst e
 exact read_none h
set_option maxHeartbeats 64000000 in
set_option maxRecDepth 100000 in
theorem read_T (text : ByteArray) (w : World) (ht : WT w) : Calls Tryd.prog 14 #[.string text] w fun e_ w' => ReadIs w w' e_ (readV text) := by
 have hu1 := Tryd.underlying67
 have hu2 := Tryd.underlying47
 have hu3 := Tryd.underlying31
 have hu4 := Tryd.underlying70
 have hu5 := Tryd.underlying55
 obtain ⟨RV, hRV⟩ : ∃ RV, RV = readV text := ⟨_, rfl⟩
 rw [← hRV]
 have HT := Aside0.mk ht
 by_cases hl : 1048576 < text.size
 ·have HV := Aside0.mk (show RV = (RS.none, 0, 9) from hRV.trans (if_pos hl))
  have e1 : decide ((text.size : Int) > 1048576) = true := decide_eq_true (by omega)
  have e2 := eq_true hl
  have e3 := eq_true (show (1048576 : Int) < (text.size : Int) by omega)
  clear hl hRV ht
  go_enter Tryd.func14, Tryd.ntmps14
  go_wp2_with fail
  exact bodyPost_ret (results_ctt rfl _ _ w.heap.size 47 #[.int .i64 0, .int .i64 0, .int .i64 0, .int .i64 0, .int .i64 0, .slice none 0 0, .slice none 0 0] (0, 0) _ rfl (blk_new w _) Tryd.underlying47 rfl (by kernel_rfl)) rfl (by rw [HV.out]; exact read_none (below_alloc (Below.refl _ _) _))
 have HRV := Aside0.mk (hRV.trans (if_neg hl))
 have HSZ := Aside0.mk (show text.size ≤ 1048576 by omega)
 have e1 : decide ((text.size : Int) > 1048576) = false := decide_eq_false (by omega)
 have e2 := eq_false hl
 have e3 := eq_false (show ¬ (1048576 : Int) < (text.size : Int) by omega)
 have hsp := fun (W : World) (hb : Below w.heap.size w W) => strings_Split.calls text ⟨#[10]⟩ _ W (splitf10_eq text (by omega)) ht hb
 have HPC := Aside0.mk (split_piece 10 text)
 have HL1 := Aside0.mk (show 1 ≤ (splitS 10 text).length ∧ (splitS 10 text).length ≤ 1048577 from ⟨by rw [splitS_len]; omega, by have := split_le10 text; omega⟩)
 clear hl hRV ht
 generalize splitS 10 text = L at *
 obtain ⟨N, hN⟩ : ∃ N, L.length = N + 1 := ⟨L.length - 1, by have := HL1.out; omega⟩
 have HN := Aside0.mk hN
 have HRV2 := HRV.out
 rw [hN, Nat.add_sub_cancel] at HRV2
 have HRV := Aside0.mk HRV2
 clear HRV2
 go_enter Tryd.func14, Tryd.ntmps14
 go_wp2_with fail
 refine (hsp _ (below_alloc (Below.refl _ _) _)).mono ?_
 rintro e_ w1 ⟨v0, rfl, hRL, hb⟩
 obtain ⟨AL, cL, eL, hcL, hCL⟩ := Kd.R_reads hRL
 subst eL
 have HR1 := Aside0.mk (blk_below (blk_new w (.cells #[.int .i64 0, .int .i64 0, .int .i64 0, .int .i64 0, .int .i64 0, .slice none 0 0, .slice none 0 0] 47)) hb)
 have HB1 := Aside0.mk (below_step (below_alloc (Below.refl w.heap.size w) (.cells #[.int .i64 0, .int .i64 0, .int .i64 0, .int .i64 0, .int .i64 0, .slice none 0 0, .slice none 0 0] 47)) hb)
 have HCL := Aside0.mk hCL
 have HL2 := Aside0.mk hcL
 have HBB := Aside0.mk (show w.heap.size < w1.heap.size from blk_lt HR1.out)
 clear hb hsp hRL hCL hcL
 have n1 : wrap64 ((L.length : Int) - 1) = (N : Int) := by have := HL1.out; unfold wrap64; omega
 have n1' : wrap64 (N : Int) = (N : Int) := by have := HL1.out; unfold wrap64; omega
 have n2 := eq_true (show (0 : Int) ≤ (N : Int) by omega)
 have n3 := eq_true (show N ≤ cL by have := HL2.out; omega)
 have n4 := eq_true (show (N : Int) ≤ (cL : Int) by have := HL2.out; omega)
 go_wp2_with fail
 obtain ⟨ad, eA, -⟩ := row_cell HCL.out 0 (by omega)
 subst eA
 rw [n1']
 go_loopg [25] N (fun kq v25 w' => ∃ (i : Nat) (s : RS), v25 = .int .i64 (i : Int) ∧ Aside0 (i + kq = N) ∧ Aside0 (s.lines ((L.take N).drop i) i = RS.none.lines (L.take N) 0) ∧ Aside0 (RdW w' w1.heap.size w1.heap.size s) ∧ Aside0 s.Ok ∧ Aside0 (Below w1.heap.size w1 w'))
 case atStart => exact ⟨0, RS.none, rfl, ⟨by omega⟩, ⟨rfl⟩, ⟨⟨_, _, blk_new w1 _, Kd.S_nil _ _ _ _ _, Kd.R_nil _ _ _ _ _⟩⟩, ⟨⟨by simp [RS.none], by simp [RS.none]⟩⟩, ⟨below_alloc (Below.refl _ _) _⟩⟩
 case round =>
  obtain ⟨i, s, rfl, HK, HLS, HW, HOK, HB⟩ := hrel
  have HC := Aside0.mk (Kd.C_below HCL.out HB.out)
  have HBW := Aside0.mk (below_step HB1.out HB.out)
  have HRS := Aside0.mk (blk_below HR1.out HB.out)
  by_cases hi : i < N
  ·have e0 : decide ((i : Int) < (N : Int)) = true := decide_eq_true (by omega)
   have q1 := Aside0.mk hi
   have p0 := eq_true (show (0 : Int) ≤ (i : Int) by omega)
   have p1 := eq_true (show (i : Int) < (N : Int) by omega)
   have p2 := eq_true hi
   obtain ⟨ad', ea', hx0⟩ := row_cell HC.out i (by omega)
   obtain rfl : ad = ad' := by injection ea'
   clear ea' hi
   obtain ⟨l, hlv⟩ : ∃ l, L.getD i ⟨#[]⟩ = l := ⟨_, rfl⟩
   rw [hlv] at hx0
   have HDR := Aside0.mk (show (L.take N).drop i = l :: (L.take N).drop (i + 1) by
    have h5 : i < (L.take N).length := by rw [List.length_take]; have := HN.out; have := q1.out; omega
    rw [List.drop_eq_getElem_cons h5]
    congr 1
    rw [← hlv, List.getElem_take, List.getD_eq_getElem?_getD, List.getElem?_eq_getElem (by have := HN.out; have := q1.out; omega)]
    rfl)
   have HLZ := Aside0.mk (show l.size ≤ 2000000000 by
    have h6 := HPC.out l (by
     rw [← hlv, List.getD_eq_getElem?_getD, List.getElem?_eq_getElem (show i < L.length by have := HN.out; have := q1.out; omega)]
     exact List.getElem_mem _)
    have := HSZ.out
    omega)
   clear hlv
   have hline := line_T s l HLZ.out w1.heap.size w1.heap.size wr HW.out (Nat.le_refl _) (HT.out.below HBW.out) HOK.out.1 HOK.out.2
   have HOK2 := Aside0.mk (s.lineS_ok l HOK.out)
   obtain ⟨s', q, hsl⟩ : ∃ s' q, s.lineS l = (s', q) := ⟨_, _, rfl⟩
   rw [hsl] at hline HOK2
   have HSL := Aside0.mk hsl
   clear hsl
   go_wp2_with fail
   refine hline.mono ?_
   rintro e_ w3 ⟨rfl, hW3, hb⟩
   have HW3 := Aside0.mk hW3
   have HB3 := Aside0.mk (below_trans HB.out hb)
   have HRS3 := Aside0.mk (blk_belowB HRS.out hb HBB.out)
   clear hline hW3 hb HW HB HRS HBW HC hx0
   simp only
   cases q with
   | true =>
    have w2_ : wrap64 ((i : Int) + 1) = (i : Int) + 1 := by have := HL1.out; have := HN.out; have := q1.out; unfold wrap64; omega
    go_wp2_with fail
    go_roundg (N - (i + 1))
    case rel => exact ⟨i + 1, s', by first | rfl | (rw [w2_]; rfl), ⟨by have := q1.out; omega⟩, ⟨by rw [← HLS.out, HDR.out]; simp only [RS.lines, HSL.out, if_true]⟩, HW3, HOK2, HB3⟩
    case measure => have := HK.out; have := q1.out; omega
   | false =>
    have w2_ : wrap64 ((i : Int) + 1) = (i : Int) + 1 := by have := HL1.out; have := HN.out; have := q1.out; unfold wrap64; omega
    have HLN := Aside0.mk (show RS.none.lines (L.take N) 0 = (s', i + 1) by rw [← HLS.out, HDR.out]; simp only [RS.lines, HSL.out]; rfl)
    have hV := HRV.out
    rw [HLN.out, if_pos (by simp)] at hV
    have HV := Aside0.mk hV
    have HBW := Aside0.mk (below_step HB1.out HB3.out)
    clear hV
    go_wp2_with (first | ((with_reducible refine wpSt 47 (.tmp 2) (.tmp 34) ?_); refine store_whole (w := w) (B := w.heap.size) rfl rfl 47 (.tmp 2) (.tmp 34) rfl (g := w.heap.size) (cs := #[.int .i64 0, .int .i64 0, .int .i64 0, .int .i64 0, .int .i64 0, .slice none 0 0, .slice none 0 0]) rfl (.agg #[.int .i64 0, .int .i64 0, .int .i64 0, .int .i64 0, .int .i64 0, .slice none 0 0, .slice none 0 0]) rfl rfl (by kernel_rfl) (by simp [Value.oneCell']) (HRS3.out) rfl (Nat.le_refl _) (HBW.out) ?_; intro w9 h1 h2 h3 h4; have HRS9 := Aside0.mk h1; have HB9 := Aside0.mk h2; have HF9 := Aside0.mk h3; clear h1 h2 h3 h4))
    exact bodyPost_ret (results_ctt rfl _ _ w.heap.size 47 #[.int .i64 0, .int .i64 0, .int .i64 0, .int .i64 0, .int .i64 0, .slice none 0 0, .slice none 0 0] (0, 0) _ rfl HRS9.out Tryd.underlying47 rfl (by kernel_rfl)) rfl (by rw [HV.out]; exact read_none HB9.out)
  ·have e0 : decide ((i : Int) < (N : Int)) = false := decide_eq_false (by omega)
   have p2 := eq_false hi
   have HIN := Aside0.mk (show i = N by have := HK.out; omega)
   have HLN := Aside0.mk (show RS.none.lines (L.take N) 0 = (s, 0) by
    rw [← HLS.out, List.drop_of_length_le (by rw [List.length_take]; have := HIN.out; omega)]
    rfl)
   clear hi
   have hV := HRV.out
   rw [HLN.out, if_neg (by simp)] at hV
   simp only at hV
   obtain ⟨ad', ea', hx0⟩ := row_cell HC.out N (by omega)
   obtain rfl : ad = ad' := by injection ea'
   clear ea'
   obtain ⟨z, hzv⟩ : ∃ z, L.getD N ⟨#[]⟩ = z := ⟨_, rfl⟩
   rw [hzv] at hx0 hV
   have HV := Aside0.mk hV
   have HLZ := Aside0.mk (show z.size ≤ 2000000000 by
    have h6 := HPC.out z (by
     rw [← hzv, List.getD_eq_getElem?_getD, List.getElem?_eq_getElem (show N < L.length by have := HN.out; omega)]
     exact List.getElem_mem _)
    have := HSZ.out
    omega)
   clear hzv hV
   have p3 := eq_true (show (N : Int) < (N : Int) + 1 by omega)
   have p4 := eq_true (show N < N + 1 by omega)
   have w2_ : wrap64 ((N : Int) + 1) = (N : Int) + 1 := by have := HL1.out; have := HN.out; unfold wrap64; omega
   have w3_ : wrap64 ((N : Int) + 1 + 1) = (N : Int) + 1 + 1 := by have := HL1.out; have := HN.out; unfold wrap64; omega
   by_cases hz : z = ⟨#[]⟩
   ·subst hz
    have hV := HV.out
    rw [if_neg (by simp)] at hV
    have z1 : ((⟨#[]⟩ : ByteArray).toList != []) = false := by rw [ByteArray.toList_eq]; rfl
    have z2 : ((⟨#[]⟩ : ByteArray).toList == []) = true := by rw [ByteArray.toList_eq]; rfl
    have z3 := eq_true (show (⟨#[]⟩ : ByteArray).toList = [] by rw [ByteArray.toList_eq])
    obtain ⟨a, b, c, d, e, l0, pk, fl, dn⟩ := s
    obtain ⟨ov, pv, hG, hS, hR⟩ := HW.out
    simp only at hG hS hR
    obtain ⟨Ao, co, eo, hco, hCo⟩ := Kd.S_reads hS
    obtain ⟨Ap, cp, ep, hcp, hCp⟩ := Kd.R_reads hR
    subst eo ep
    have HG := Aside0.mk hG
    have HS := Aside0.mk hS
    have HR := Aside0.mk hR
    have g0 : wr.cell? ⟨w1.heap.size, 0, none⟩ = some (.int .i64 a) := (blk_cell hG 0).trans rfl
    have g1 : wr.cell? ⟨w1.heap.size, 1, none⟩ = some (.int .i64 b) := (blk_cell hG 1).trans rfl
    have g2 : wr.cell? ⟨w1.heap.size, 2, none⟩ = some (.int .i64 c) := (blk_cell hG 2).trans rfl
    have g3 : wr.cell? ⟨w1.heap.size, 3, none⟩ = some (.int .i64 d) := (blk_cell hG 3).trans rfl
    have g4 : wr.cell? ⟨w1.heap.size, 4, none⟩ = some (.int .i64 e) := (blk_cell hG 4).trans rfl
    have g5 : wr.cell? ⟨w1.heap.size, 5, none⟩ = some (.slice Ao l0.length co) := (blk_cell hG 5).trans rfl
    have g6 : wr.cell? ⟨w1.heap.size, 6, none⟩ = some (.slice Ap pk.length cp) := (blk_cell hG 6).trans rfl
    have hch := check_T a b c d e Ao co l0 Ap cp pk wr hCo hCp
    obtain ⟨r1, r2, r3, hr⟩ : ∃ r1 r2 r3, scV a b c d e l0 pk = (r1, r2, r3) := ⟨_, _, _, rfl⟩
    have hsr : scR ⟨a, b, c, d, e, l0, pk, fl, dn⟩ = (r1, r2, r3) := hr
    rw [hr] at hch
    rw [hsr] at hV
    simp only at hch
    have HV2 := Aside0.mk hV
    clear hG hS hR hcp hCp hco hCo hr hsr hV HV HW
    go_wp2_with fail
    refine hch.mono ?_
    rintro e_ w3 ⟨rfl, hb⟩
    have HG3 := Aside0.mk (blk_below HG.out hb)
    have HS3 := Aside0.mk (Kd.S_below HS.out hb)
    have HR3 := Aside0.mk (Kd.R_below HR.out hb)
    have HRS3 := Aside0.mk (blk_below HRS.out hb)
    have HBW3 := Aside0.mk (below_step HBW.out hb)
    clear hb hch HG HS HR HRS HBW HB g0 g1 g2 g3 g4 g5 g6 hx0 HC
    by_cases hq : r1 = 0 ∧ r2 = 0 ∧ r3 = 0
    ·obtain ⟨rfl, rfl, rfl⟩ := hq
     have hV := HV2.out
     rw [if_neg (by simp)] at hV
     have HV := Aside0.mk hV
     have g0 : w3.cell? ⟨w1.heap.size, 0, none⟩ = some (.int .i64 a) := (blk_cell HG3.out 0).trans rfl
     have g1 : w3.cell? ⟨w1.heap.size, 1, none⟩ = some (.int .i64 b) := (blk_cell HG3.out 1).trans rfl
     have g2 : w3.cell? ⟨w1.heap.size, 2, none⟩ = some (.int .i64 c) := (blk_cell HG3.out 2).trans rfl
     have g3 : w3.cell? ⟨w1.heap.size, 3, none⟩ = some (.int .i64 d) := (blk_cell HG3.out 3).trans rfl
     have g4 : w3.cell? ⟨w1.heap.size, 4, none⟩ = some (.int .i64 e) := (blk_cell HG3.out 4).trans rfl
     have g5 : w3.cell? ⟨w1.heap.size, 5, none⟩ = some (.slice Ao l0.length co) := (blk_cell HG3.out 5).trans rfl
     have g6 : w3.cell? ⟨w1.heap.size, 6, none⟩ = some (.slice Ap pk.length cp) := (blk_cell HG3.out 6).trans rfl
     clear hV HV2
     go_wp2_with (first | ((with_reducible refine wpSt 47 (.tmp 2) (.tmp 67) ?_); refine store_whole (w := w) (B := w.heap.size) rfl rfl 47 (.tmp 2) (.tmp 67) rfl (g := w.heap.size) (cs := #[.int .i64 a, .int .i64 b, .int .i64 c, .int .i64 d, .int .i64 e, .slice Ao l0.length co, .slice Ap pk.length cp]) rfl (.agg #[.int .i64 a, .int .i64 b, .int .i64 c, .int .i64 d, .int .i64 e, .slice Ao l0.length co, .slice Ap pk.length cp]) rfl rfl (by kernel_rfl) (by simp [Value.oneCell']) (HRS3.out) rfl (Nat.le_refl _) (HBW3.out) ?_; intro w9 h1 h2 h3 h4; have HRS9 := Aside0.mk h1; have HB9 := Aside0.mk h2; have HF9 := Aside0.mk h3; clear h1 h2 h3 h4))
     exact bodyPost_ret (results_ctt rfl _ _ w.heap.size 47 #[.int .i64 a, .int .i64 b, .int .i64 c, .int .i64 d, .int .i64 e, .slice Ao l0.length co, .slice Ap pk.length cp] (0, 0) _ rfl HRS9.out Tryd.underlying47 rfl (by kernel_rfl)) rfl (by rw [HV.out]; exact ⟨_, _, rfl, Kd.S_lower (Kd.S_mono (Kd.S_step (Kd.S_types HS3.out HRS3.out ops_ne47) (fun k hk _ => HF9.out k hk.2)) (fun _ _ => trivial)) (by have := HBB.out; omega), Kd.R_lower (Kd.R_mono (Kd.R_step (Kd.R_types HR3.out HRS3.out ints_ne47) (fun k hk _ => HF9.out k hk.2)) (fun _ _ => trivial)) (by have := HBB.out; omega), HB9.out⟩)
    ·have hV := HV2.out
     rw [if_pos (by simpa using hq)] at hV
     have HV := Aside0.mk hV
     clear hV HV2
     obtain ⟨z1⟩ | ⟨rfl, z2⟩ | ⟨rfl, rfl, z3⟩ : (¬ r1 = 0) ∨ (r1 = 0 ∧ ¬ r2 = 0) ∨ (r1 = 0 ∧ r2 = 0 ∧ ¬ r3 = 0) := by
      by_cases e1 : r1 = 0
      ·by_cases e2 : r2 = 0
       ·exact .inr (.inr ⟨e1, e2, fun e3 => hq ⟨e1, e2, e3⟩⟩)
       ·exact .inr (.inl ⟨e1, e2⟩)
      ·exact .inl e1
     all_goals
      clear hq
      go_wp2_with (first | ((with_reducible refine wpSt 47 (.tmp 2) (.tmp 61) ?_); refine store_whole (w := w) (B := w.heap.size) rfl rfl 47 (.tmp 2) (.tmp 61) rfl (g := w.heap.size) (cs := #[.int .i64 0, .int .i64 0, .int .i64 0, .int .i64 0, .int .i64 0, .slice none 0 0, .slice none 0 0]) rfl (.agg #[.int .i64 0, .int .i64 0, .int .i64 0, .int .i64 0, .int .i64 0, .slice none 0 0, .slice none 0 0]) rfl rfl (by kernel_rfl) (by simp [Value.oneCell']) (HRS3.out) rfl (Nat.le_refl _) (HBW3.out) ?_; intro w9 h1 h2 h3 h4; have HRS9 := Aside0.mk h1; have HB9 := Aside0.mk h2; have HF9 := Aside0.mk h3; clear h1 h2 h3 h4))
      exact bodyPost_ret (results_ctt rfl _ _ w.heap.size 47 #[.int .i64 0, .int .i64 0, .int .i64 0, .int .i64 0, .int .i64 0, .slice none 0 0, .slice none 0 0] (0, 0) _ rfl HRS9.out Tryd.underlying47 rfl (by kernel_rfl)) rfl (by rw [HV.out]; exact read_none' HB9.out (by first | rfl | (rw [w2_]; rfl)))
   ·have hV := HV.out
    rw [if_pos hz] at hV
    have z1 : (z.toList != []) = true := by simpa using (fun h : z.toList = [] => hz (toList_inj (h.trans (by rw [ByteArray.toList_eq]))))
    have z2 : (z.toList == []) = false := beq_eq_false_iff_ne.mpr (fun h => hz (toList_inj (h.trans (by rw [ByteArray.toList_eq]))))
    have z3 := eq_false (show ¬ z.toList = [] from fun h => hz (toList_inj (h.trans (by rw [ByteArray.toList_eq]))))
    have hline := line_T s z HLZ.out w1.heap.size w1.heap.size wr HW.out (Nat.le_refl _) (HT.out.below HBW.out) HOK.out.1 HOK.out.2
    obtain ⟨s', q, hsl⟩ : ∃ s' q, s.lineS z = (s', q) := ⟨_, _, rfl⟩
    rw [hsl] at hline hV
    have HV2 := Aside0.mk hV
    clear hsl hz hV HV
    go_wp2_with fail
    refine hline.mono ?_
    rintro e_ w3 ⟨rfl, hW3, hb⟩
    have HRS3 := Aside0.mk (blk_belowB HRS.out hb HBB.out)
    have HBW3 := Aside0.mk (below_step HB1.out (below_trans HB.out hb))
    clear hline hW3 hb HW HB HRS HBW HC hx0
    simp only
    cases q with
    | true =>
     have hV := HV2.out
     rw [if_pos rfl] at hV
     have HV := Aside0.mk hV
     clear hV HV2
     go_wp2_with (first | ((with_reducible refine wpSt 47 (.tmp 2) (.tmp 51) ?_); refine store_whole (w := w) (B := w.heap.size) rfl rfl 47 (.tmp 2) (.tmp 51) rfl (g := w.heap.size) (cs := #[.int .i64 0, .int .i64 0, .int .i64 0, .int .i64 0, .int .i64 0, .slice none 0 0, .slice none 0 0]) rfl (.agg #[.int .i64 0, .int .i64 0, .int .i64 0, .int .i64 0, .int .i64 0, .slice none 0 0, .slice none 0 0]) rfl rfl (by kernel_rfl) (by simp [Value.oneCell']) (HRS3.out) rfl (Nat.le_refl _) (HBW3.out) ?_; intro w9 h1 h2 h3 h4; have HRS9 := Aside0.mk h1; have HB9 := Aside0.mk h2; have HF9 := Aside0.mk h3; clear h1 h2 h3 h4))
     exact bodyPost_ret (results_ctt rfl _ _ w.heap.size 47 #[.int .i64 0, .int .i64 0, .int .i64 0, .int .i64 0, .int .i64 0, .slice none 0 0, .slice none 0 0] (0, 0) _ rfl HRS9.out Tryd.underlying47 rfl (by kernel_rfl)) rfl (by rw [HV.out]; exact read_none' HB9.out (by first | rfl | (rw [w2_]; rfl) | (rw [w2_, w3_]; rfl) | (rw [w3_]; rfl)))
    | false =>
     have hV := HV2.out
     rw [if_neg (by decide)] at hV
     have HV := Aside0.mk hV
     clear hV HV2
     go_wp2_with (first | ((with_reducible refine wpSt 47 (.tmp 2) (.tmp 51) ?_); refine store_whole (w := w) (B := w.heap.size) rfl rfl 47 (.tmp 2) (.tmp 51) rfl (g := w.heap.size) (cs := #[.int .i64 0, .int .i64 0, .int .i64 0, .int .i64 0, .int .i64 0, .slice none 0 0, .slice none 0 0]) rfl (.agg #[.int .i64 0, .int .i64 0, .int .i64 0, .int .i64 0, .int .i64 0, .slice none 0 0, .slice none 0 0]) rfl rfl (by kernel_rfl) (by simp [Value.oneCell']) (HRS3.out) rfl (Nat.le_refl _) (HBW3.out) ?_; intro w9 h1 h2 h3 h4; have HRS9 := Aside0.mk h1; have HB9 := Aside0.mk h2; have HF9 := Aside0.mk h3; clear h1 h2 h3 h4))
     exact bodyPost_ret (results_ctt rfl _ _ w.heap.size 47 #[.int .i64 0, .int .i64 0, .int .i64 0, .int .i64 0, .int .i64 0, .slice none 0 0, .slice none 0 0] (0, 0) _ rfl HRS9.out Tryd.underlying47 rfl (by kernel_rfl)) rfl (by rw [HV.out]; exact read_none' HB9.out (by first | rfl | (rw [w2_]; rfl) | (rw [w2_, w3_]; rfl) | (rw [w3_]; rfl)))
end Go.Proofs.YtinmmnljicmppaaDoor.PTaleApart
