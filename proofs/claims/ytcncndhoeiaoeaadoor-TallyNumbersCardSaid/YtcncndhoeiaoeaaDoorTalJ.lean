/-
Lines.
-/
import Derived.Test.YtcncndhoeiaoeaaDoorTalI
import Derived.Test.YtcncndhoeiaoeaaDoorExtItoaG
import Derived.Test.YtcncndhoeiaoeaaDoorJoinA
import Derived.Test.YtcncndhoeiaoeaaDoorTalN
import Derived.Test.YtcncndhoeiaoeaaDoorTalQ
namespace Go.Proofs.YtcncndhoeiaoeaaDoor.PTallyExact
open Go Go.RowKit Go.Proofs.YtcncndhoeiaoeaaDoorW.PrintWords Go.Proofs.YtcncndhoeiaoeaaDoorW.PrintLast Go.Proofs.YtcncndhoeiaoeaaDoorW.PrintMore
attribute [local go_sem] max2_int min2_int max_two min_two max_three min_three max_four min_four
set_option linter.unusedVariables false
set_option linter.unusedSimpArgs false
def wordsU (l : List Int) (n : Nat) : Nat → List ByteArray
  | 0 => [nameN n]
  | i + 1 => wordsU l n i ++ [itB (l.getD (1 + n * 7 + i) 0)]
theorem wordsU_len (l : List Int) (n : Nat) : ∀ i, (wordsU l n i).length = i + 1
  | 0 => rfl
  | i + 1 => by rw [wordsU, List.length_append, wordsU_len l n i]; rfl
theorem join_words (l : List Int) (n : Nat) : ∀ i, Lib.join ((wordsU l n i).map (·.data.toList)) [32] = (rowS l n i).data.toList ∧ ∃ x r, wordsU l n i = x :: r
  | 0 => ⟨Lib.join_one _ _, _, _, rfl⟩
  | i + 1 => by
    obtain ⟨h1, x, r, h2⟩ := join_words l n i
    refine ⟨?_, x, r ++ [itB (l.getD (1 + n * 7 + i) 0)], by rw [wordsU, h2]; rfl⟩
    rw [wordsU, rowS, h2]
    rw [h2] at h1
    simp only [List.map_cons, List.cons_append, List.map_append, List.map_nil, Lib.join_cons] at h1 ⊢
    simp only [Lib.joinTail, List.map_append, List.flatten_append, List.map_cons, List.map_nil, List.flatten_cons, List.flatten_nil, ByteArray.data_append, Array.toList_append]
    rw [← h1]
    simp only [Lib.joinTail, List.append_assoc, List.append_nil]
theorem join_row (l : List Int) (n : Nat) : (⟨(Lib.join ((wordsU l n 7).map (·.data.toList)) (⟨#[32]⟩ : ByteArray).data.toList).toArray⟩ : ByteArray) = rowS l n 7 := by
  have := (join_words l n 7).1
  rw [show (⟨#[32]⟩ : ByteArray).data.toList = [32] from rfl, this]
theorem join_size {l : List Int} (h : Ints l) (n : Nat) : (Lib.join ((wordsU l n 7).map (·.data.toList)) (⟨#[32]⟩ : ByteArray).data.toList).length ≤ 140737488355328 := by
  have h1 := (join_words l n 7).1
  rw [show (⟨#[32]⟩ : ByteArray).data.toList = [32] from rfl, h1]
  have h2 := rowS_size h n 7
  have h3 : (rowS l n 7).data.toList.length = (rowS l n 7).size := (fun b : ByteArray => (rfl : b.data.toList.length = b.size)) _
  omega
theorem at_s {W : World} {B c m : Nat} {A : Option Addr} {ok : Nat → Prop} {xs : List ByteArray} (h : Kd.R Kd.string 9 W B ok (.slice A m c) xs) (hm : m = xs.length) (i : Nat) (h1 : i < m) : ∃ ad, A = some ad ∧ W.cell? (ad.add i) = some (.string (xs.getD i ⟨#[]⟩)) := by
  subst hm
  have hC := (Kd.R_reads' h).2.2
  obtain ⟨ad, c, e, _, hK, hc0⟩ := Kd.C_get hC ⟨#[]⟩ (i : Int) (by omega) (by omega)
  have hK2 : c = [.string (xs.getD i ⟨#[]⟩)] := hK
  subst hK2
  have h2 : W.cell? (ad.add (i * 1 + 0)) = some (.string (xs.getD i ⟨#[]⟩)) := hc0 0 _ rfl
  rw [Nat.mul_one, Nat.add_zero] at h2
  exact ⟨ad, e, h2⟩
theorem at_n {W : World} {B c g : Nat} {A : Option Addr} {ok : Nat → Prop} (h : kp.R 87 W B ok (.slice A 7 c) (nums g 0)) (i : Nat) (h1 : i < 7) : ∃ ad, A = some ad ∧ W.cell? (ad.add i) = some (.pointer (some ⟨g, i, none⟩)) := by
  have hC := (Kd.R_reads' h).2.2
  obtain ⟨ad, c, e, _, hK, hc0⟩ := Kd.C_get hC (0, 0) (i : Int) (by omega) (by have : (nums g 0).length = 7 := rfl; omega)
  have hK2 : c = [pV ((nums g 0).getD i (0, 0))] := hK
  subst hK2
  have h2 : W.cell? (ad.add (i * 1 + 0)) = some (pV ((nums g 0).getD i (0, 0))) := hc0 0 _ rfl
  rw [Nat.mul_one, Nat.add_zero] at h2
  have h3 : (nums g 0).getD i (0, 0) = (g, i) := by
    rcases i with _ | _ | _ | _ | _ | _ | _ | i
    iterate 7 (first | rfl | simp [nums])
    omega
  rw [h3] at h2
  exact ⟨ad, e, h2⟩
theorem row_cells {W : World} {B : Nat} {ok : Nat → Prop} {v : Value} {xs : List ByteArray} (h : Kd.R Kd.string 9 W B ok v xs) (hx : 0 < xs.length) : ∃ g c, v = .slice (some ⟨g, 0, none⟩) xs.length c ∧ g < W.heap.size ∧ xs.length ≤ c ∧ ∀ (j : Nat) x, xs[j]? = some x → W.cell? ⟨g, 0 + j, none⟩ = some (.string x) := by
  obtain ⟨inner, hin⟩ := Kd.R_own h
  obtain ⟨A, c, e, hc, hC⟩ := Kd.R_reads h
  obtain ⟨-, ⟨rfl, h0⟩ | ⟨g, cap, cur, e1, -, hg, -⟩⟩ := hin
  · omega
  · subst e1
    injection e with e2 _ e3
    subst e2
    subst e3
    obtain ⟨ad, ea, hcells⟩ := hC.2.2 hx
    injection ea with ea
    subst ea
    refine ⟨g, cap, rfl, blk_lt hg, hc, fun j x hj => ?_⟩
    obtain ⟨cs, -, hK, h2⟩ := hcells j x hj
    have hK2 : cs = [.string x] := hK
    subst hK2
    have h3 : W.cell? ((⟨g, 0, none⟩ : Addr).add (j * 1 + 0)) = some (.string x) := h2 0 _ rfl
    rw [Nat.mul_one, Nat.add_zero, show (⟨g, 0, none⟩ : Addr).add j = ⟨g, 0 + j, none⟩ by unfold Addr.add; split <;> simp [*]] at h3
    exact h3
/-- Pointers stay where a row of strings grows. -/
theorem p_grown {W w1 : World} {B B' : Nat} {ok ok' : Nat → Prop} {v u : Value} {xs : List (Nat × Nat)} {ys : List ByteArray} (h : kp.R 87 W B ok v xs) (hw : Kd.R Kd.string 9 W B' ok' u ys) (hg : W.grownBy w1 u.ownBlock) : kp.R 87 w1 B ok v xs :=
  Kd.R_mono (Kd.R_grown (Kd.R_bound h) hg (fun k hk => by
    obtain ⟨_, _, _, q, hq, cs, hc⟩ := hk
    rw [onlyp q hq] at hc
    exact Kd.R_ne hw hc (by decide))) (fun _ hk => hk.1)
/-- A row of strings stays where another one grows. -/
theorem s_grown {W w1 : World} {B : Nat} {v u u1 : Value} {xs : List ByteArray} (h : Kd.R Kd.string 9 W B (fun k => some k ≠ u.ownBlock) v xs) (hg : W.grownBy w1 u.ownBlock) (hat : u1.ownBlock = u.ownBlock ∨ ∃ b, u1.ownBlock = some b ∧ W.heap.size ≤ b) : Kd.R Kd.string 9 w1 B (fun k => some k ≠ u1.ownBlock) v xs :=
  Kd.R_mono (Kd.R_grown (Kd.R_bound h) hg (fun _ hk => hk.1)) (fun k hk => by
    rcases hat with hat | ⟨b, hb, hle⟩
    · rw [hat]; exact hk.1
    · rw [hb]; intro he; injection he with he; have := hk.2.2.1; omega)
theorem names_eq : tally_names.f = some names9 := rfl
theorem rowD_0 (l : List Int) (n : Nat) (h : ∀ j, j < 7 → l.getD (1 + n * 7 + j) 0 = 0) : rowD l n 7 = false := by
  have : ∀ i, i ≤ 7 → rowD l n i = false := by
    intro i
    induction i with
    | zero => intro _; rfl
    | succ i ih => intro hi; rw [rowD, ih (by omega), h i (by omega)]; rfl
  exact this 7 (by omega)
theorem rowD_1 (l : List Int) (n j : Nat) (hj : j < 7) (h : l.getD (1 + n * 7 + j) 0 ≠ 0) : rowD l n 7 = true := by
  have : ∀ i, j < i → rowD l n i = true := by
    intro i
    induction i with
    | zero => intro h; omega
    | succ i ih =>
      intro hi
      rw [rowD]
      by_cases e : j = i
      · subst e; rw [decide_eq_true h]; simp
      · rw [ih (by omega)]; rfl
  exact this 7 hj
set_option maxHeartbeats 64000000 in
set_option maxRecDepth 100000 in
theorem lines_T (l : List Int) (w : World) (hl : l.length = 64) (hi : Ints l) (hT : TabW w) :
    Calls Tryd.prog 33 #[.agg (TV l)] w fun e w' => ∃ v, e = .returned v ∧ Kd.R Kd.string 9 w' w.heap.size (fun _ => True) v (linesU l 9) ∧ Below w.heap.size w w' := by
  have hu51 := Tryd.underlying51
  have hu49 := Tryd.underlying49
  have hu48 := Tryd.underlying48
  have hu62 := Tryd.underlying62
  have hu85 := Tryd.underlying85
  have hu87 := Tryd.underlying87
  have HL := Aside0.mk hl
  have HI := Aside0.mk hi
  have HT := Aside0.mk hT
  clear hi hT
  have HIT := Aside0.mk (show ∀ x, -9223372036854775808 ≤ x ∧ x ≤ 9223372036854775807 → itoaG.f x = some (itB x) from fun x hx => by unfold itoaG.f; rw [if_pos (U.wf_i64.2 (by omega))]; rfl)
  have g0 := TV_get l 0 (by omega)
  have hz0 := itB_size _ (HI.out.at 0)
  have hm0 := HIT.out _ (HI.out.at 0)
  have HD := Aside0.mk (show linesU l 0 = [(⟨#[105, 100, 108, 101, 32]⟩ : ByteArray) ++ itB (l.getD 0 0)] from rfl)
  generalize l.getD 0 0 = x0 at g0 hz0 hm0 HD
  have L_T := Aside0.mk (show w.heap.size ≤ w.heap.size from Nat.le_refl _)
  have T_1 := Aside0.mk (blk_new (w) (.cells (TV l) 51))
  have B2 := Aside0.mk (below_alloc (Below.refl w.heap.size w) (.cells (TV l) 51))
  have c0 := (blk_cell T_1.out 0).trans g0
  clear hl
  go_enter Tryd.func33, Tryd.ntmps33
  go_wp2_with fail
  clear c0
  refine (itoaG.calls _ _ _ hm0 HT.out B2.out).mono ?_
  rintro e_ w1 ⟨rfl, hb⟩
  have T_3 := Aside0.mk (blk_below T_1.out hb)
  have B4 := Aside0.mk (below_step B2.out hb)
  clear hb T_1 B2
  clear hm0
  have s0 := eq_false (show ¬ 9223372036854775807 < 5 + (itB x0).size by omega)
  clear hz0
  go_wp2_with (first
    | ((with_reducible refine gate_dst (N := 14) rfl ?_); refine Kd.R_lit Kd.string (w0 := w) w.heap.size 9 ?hg (N := 14) ?hd (xs := [(⟨#[105, 100, 108, 101, 32]⟩ : ByteArray) ++ itB x0]) (inner := [.string ((⟨#[105, 100, 108, 101, 32]⟩ : ByteArray) ++ itB x0)]) (ok := fun _ => True) (okp := fun _ => True) ?hr ?hp (fun _ hk => hk) trivial B4.out ?hsz (by simp) ?_; (case hd => rfl); (case hg => rfl); (case hr => first | (go_simp; done) | (go_simp; rfl)); (case hp => exact (Reps.one (show Kd.M Kd.string _ _ _ ((⟨#[105, 100, 108, 101, 32]⟩ : ByteArray) ++ itB x0) [.string ((⟨#[105, 100, 108, 101, 32]⟩ : ByteArray) ++ itB x0)] from rfl) (Reps.none _ _))); (case hsz => exact B4.out.size); intro vW w2 ho hb hg_ hnew_; have T_900 := Aside0.mk ((hg_.block _ (blk_lt T_3.out) (by simp)).trans T_3.out); have W_900 := Aside0.mk ho; have B900 := Aside0.mk hb; clear ho hb hg_ hnew_ T_3 B4))
  refine (tally_names.calls _ _ names_eq).mono ?_
  rintro e_ w3 ⟨vM, rfl, hR, hb⟩
  obtain ⟨A9, c9, e9, -, -⟩ := Kd.R_reads hR
  have e9' : vM = .slice A9 9 c9 := e9
  subst e9'
  clear e9
  obtain ⟨in_, hin_⟩ := Kd.R_own W_900.out
  have M_1900 := Aside0.mk (Kd.R_mono (Kd.R_lower (Kd.R_new hR hin_) B900.out.size) (fun _ hk => hk.2))
  clear hR hin_ in_
  have T_1900 := Aside0.mk (blk_below T_900.out hb)
  have W_1900 := Aside0.mk (Kd.R_below W_900.out hb)
  have B1900 := Aside0.mk (below_step B900.out hb)
  clear hb T_900 W_900 B900
  go_wp2_with fail
  go_loopg [3, 17] 9 (fun kq v3 v17 w' => ∃ (n : Nat) (vW : Value), v3 = vW ∧ v17 = .int .i64 (n : Int) ∧ Aside0 (n + kq = 9) ∧ Aside0 (Below w.heap.size w w') ∧ Aside0 (w'.heap[w.heap.size]? = some (.cells (TV l) 51 (0, 0))) ∧ Aside0 (Kd.R Kd.string 9 w' w.heap.size (fun _ => True) vW (linesU l n)) ∧ Aside0 (Kd.R Kd.string 9 w' w.heap.size (fun k => some k ≠ Value.ownBlock vW) (.slice A9 9 c9) (names9)))
  case atStart => exact ⟨0, vW, rfl, rfl, ⟨rfl⟩, ⟨B1900.out⟩, ⟨T_1900.out⟩, ⟨by rw [HD.out]; exact W_1900.out⟩, M_1900⟩
  case round =>
    rename World => wo
    clear B1900 T_1900 W_1900 M_1900 HD
    obtain ⟨n, _, rfl, rfl, HK, B900, T_900, W_900, M_900⟩ := hrel
    by_cases hi : n < 9
    · skip
      have d1 : decide ((n : Int) < 9) = true := decide_eq_true (by omega)
      have q1 := Aside0.mk hi
      obtain ⟨ko, rfl⟩ : ∃ m, gk = m + 1 := ⟨gk - 1, by have := HK.out; omega⟩
      have p0 := eq_true (show (0 : Int) ≤ (n : Int) by omega)
      have p1 := eq_true (show (n : Int) < 9 by omega)
      have p2 := eq_true hi
      have wi : wrap64 ((n : Int) + 1) = ((n + 1 : Nat) : Int) := by have := q1.out; unfold wrap64; omega
      obtain ⟨pM, eM_, xM⟩ := at_s M_900.out rfl n hi
      subst eM_
      have nM : wo.cell? (pM.add n) = some (.string (nameN n)) := xM
      clear xM
      obtain ⟨x0, x1, x2, x3, x4, x5, x6, hsv⟩ := seven_x l (1 + n * 7)
      have hrg := seven_range (o := 1 + n * 7) T_900.out (by have := HL.out; omega)
      rw [hsv] at hrg
      have HRG := Aside0.mk hrg
      clear hrg hi
      have HX := Aside0.mk (show ∀ j, j < 7 → l.getD (1 + n * 7 + j) 0 = ([x0, x1, x2, x3, x4, x5, x6] : List Int).getD j 0 from fun j hj => by rw [← hsv]; simp [seven, List.getD_eq_getElem?_getD, hj])
      clear hsv
      have HU := Aside0.mk (show linesU l (n + 1) = linesU l n ++ (if n = 0 then [] else if rowD l n 7 = true then [rowS l n 7] else []) from rfl)
      have HLN := Aside0.mk (linesU_len l n)
      have HNZ := Aside0.mk (nameN_size n)
      have T_901 := Aside0.mk (T_900.out)
      clear T_900
      have L_C := Aside0.mk (show wo.heap.size ≤ wo.heap.size from Nat.le_refl _)
      have C_902 := Aside0.mk (blk_new (wo) (.cells #[.int .i64 0, .int .i64 0, .int .i64 0, .int .i64 0, .int .i64 0, .int .i64 0, .int .i64 0] 48))
      have B903 := Aside0.mk (below_alloc (Below.refl wo.heap.size wo) (.cells #[.int .i64 0, .int .i64 0, .int .i64 0, .int .i64 0, .int .i64 0, .int .i64 0, .int .i64 0] 48))
      by_cases nz : n = 0
      · subst nz
        rw [if_pos rfl, List.append_nil] at HU
        have nM0 : wo.cell? pM = some (.string (nameN 0)) := nM
        go_wp2_with (first
          | ((with_reducible refine wpLd 48 (.tmp 24) ?_); refine wpList_load_mid rfl 48 (.tmp 24) rfl (w.heap.size) (1) rfl [.int .i64 x0, .int .i64 x1, .int .i64 x2, .int .i64 x3, .int .i64 x4, .int .i64 x5, .int .i64 x6] _ HRG.out Tryd.underlying48 rfl (by kernel_rfl) ?_)
          | ((with_reducible refine wpSt 48 (.tmp 6) (.tmp 25) ?_); refine store_whole (w := wo) (B := wo.heap.size) rfl rfl 48 (.tmp 6) (.tmp 25) rfl (g := wo.heap.size) (cs := TV ([x0, x1, x2, x3, x4, x5, x6])) rfl _ rfl rfl (by kernel_rfl) (TV_one _) C_902.out (rfl) L_C.out B903.out ?_; intro w_904 h1 h2 h3 h4; have C_905 := Aside0.mk (h1); have B906 := Aside0.mk (h2); clear h1 h2 h3 h4 C_902 B903))
        go_roundg ko
        case rel => exact ⟨0 + 1, u3, rfl, by first | rfl | rw [wi], ⟨by have := HK.out; omega⟩, ⟨(below_step B900.out B906.out)⟩, ⟨(blk_below T_901.out B906.out)⟩, ⟨by rw [HU.out]; exact Kd.R_below W_900.out B906.out⟩, ⟨Kd.R_below M_900.out B906.out⟩⟩
        case measure => exact Nat.lt_succ_self _
      have b0 : ((n : Int) == 0) = false := beq_eq_false_iff_ne.mpr (by omega)
      have b1 : decide ((n : Int) = 0) = false := decide_eq_false (by omega)
      rw [if_neg nz] at HU
      have n0 := eq_false (show ¬ (n : Int) = 0 by omega)
      have n1 := eq_false nz
      clear nz
      by_cases hz : x0 = 0 ∧ x1 = 0 ∧ x2 = 0 ∧ x3 = 0 ∧ x4 = 0 ∧ x5 = 0 ∧ x6 = 0
      · obtain ⟨rfl, rfl, rfl, rfl, rfl, rfl, rfl⟩ := hz
        rw [rowD_0 l n (fun j hj => by rw [HX.out j hj]; rcases j with _ | _ | _ | _ | _ | _ | _ | j <;> first | rfl | omega), if_neg (by decide), List.append_nil] at HU
        go_wp2_with (first
          | ((with_reducible refine wpLd 48 (.tmp 24) ?_); refine wpList_load_mid rfl 48 (.tmp 24) rfl (w.heap.size) (1 + n * 7) rfl [.int .i64 0, .int .i64 0, .int .i64 0, .int .i64 0, .int .i64 0, .int .i64 0, .int .i64 0] _ HRG.out Tryd.underlying48 rfl (by kernel_rfl) ?_)
          | ((with_reducible refine wpSt 48 (.tmp 6) (.tmp 25) ?_); refine store_whole (w := wo) (B := wo.heap.size) rfl rfl 48 (.tmp 6) (.tmp 25) rfl (g := wo.heap.size) (cs := TV ([0, 0, 0, 0, 0, 0, 0])) rfl _ rfl rfl (by kernel_rfl) (TV_one _) C_902.out (rfl) L_C.out B903.out ?_; intro w_904 h1 h2 h3 h4; have C_905 := Aside0.mk (h1); have B906 := Aside0.mk (h2); clear h1 h2 h3 h4 C_902 B903)
          | ((with_reducible refine wpLd 48 (.tmp 6) ?_); refine wpList_load_row_g (by rfl) 48 (.tmp 6) rfl (wo.heap.size) rfl 48 (TV ([0, 0, 0, 0, 0, 0, 0])) (0, 0) _ C_905.out Tryd.underlying48 rfl (by kernel_rfl) ?_)
          | ((with_reducible refine wpBi .eql 48 (.tmp 29) (.tmp 30) 48 ?_); refine wpList_value_g (by rfl) (exec_eq48 (.tmp 29) (.tmp 30) rfl [0, 0, 0, 0, 0, 0, 0] [0, 0, 0, 0, 0, 0, 0] rfl rfl rfl rfl true (decide_eq_true rfl)) ?_))
        go_roundg ko
        case rel => exact ⟨n + 1, u3, rfl, by first | rfl | rw [wi], ⟨by have := HK.out; omega⟩, ⟨(below_step B900.out B906.out)⟩, ⟨(blk_below T_901.out B906.out)⟩, ⟨by rw [HU.out]; exact Kd.R_below W_900.out B906.out⟩, ⟨Kd.R_below M_900.out B906.out⟩⟩
        case measure => exact Nat.lt_succ_self _
      have HDT := Aside0.mk (show rowD l n 7 = true from by
        by_cases y0 : x0 = 0
        · by_cases y1 : x1 = 0
          · by_cases y2 : x2 = 0
            · by_cases y3 : x3 = 0
              · by_cases y4 : x4 = 0
                · by_cases y5 : x5 = 0
                  · exact rowD_1 l n 6 (by omega) (by rw [HX.out 6 (by omega)]; exact fun y6 => hz ⟨y0, y1, y2, y3, y4, y5, y6⟩)
                  · exact rowD_1 l n 5 (by omega) (by rw [HX.out 5 (by omega)]; exact y5)
                · exact rowD_1 l n 4 (by omega) (by rw [HX.out 4 (by omega)]; exact y4)
              · exact rowD_1 l n 3 (by omega) (by rw [HX.out 3 (by omega)]; exact y3)
            · exact rowD_1 l n 2 (by omega) (by rw [HX.out 2 (by omega)]; exact y2)
          · exact rowD_1 l n 1 (by omega) (by rw [HX.out 1 (by omega)]; exact y1)
        · exact rowD_1 l n 0 (by omega) (by rw [HX.out 0 (by omega)]; exact y0))
      rw [HDT.out, if_pos rfl] at HU
      have hzz : decide ([x0, x1, x2, x3, x4, x5, x6] = [0, 0, 0, 0, 0, 0, 0]) = false := decide_eq_false (fun e => hz (by simpa using e))
      clear hz
      go_wp2_with (first
        | ((with_reducible refine wpLd 48 (.tmp 24) ?_); refine wpList_load_mid rfl 48 (.tmp 24) rfl (w.heap.size) (1 + n * 7) rfl [.int .i64 x0, .int .i64 x1, .int .i64 x2, .int .i64 x3, .int .i64 x4, .int .i64 x5, .int .i64 x6] _ HRG.out Tryd.underlying48 rfl (by kernel_rfl) ?_)
        | ((with_reducible refine wpSt 48 (.tmp 6) (.tmp 25) ?_); refine store_whole (w := wo) (B := wo.heap.size) rfl rfl 48 (.tmp 6) (.tmp 25) rfl (g := wo.heap.size) (cs := TV ([x0, x1, x2, x3, x4, x5, x6])) rfl _ rfl rfl (by kernel_rfl) (TV_one _) C_902.out (rfl) L_C.out B903.out ?_; intro w_904 h1 h2 h3 h4; have C_905 := Aside0.mk (h1); have B906 := Aside0.mk (h2); clear h1 h2 h3 h4 C_902 B903)
        | ((with_reducible refine wpLd 48 (.tmp 6) ?_); refine wpList_load_row_g (by rfl) 48 (.tmp 6) rfl (wo.heap.size) rfl 48 (TV ([x0, x1, x2, x3, x4, x5, x6])) (0, 0) _ C_905.out Tryd.underlying48 rfl (by kernel_rfl) ?_)
        | ((with_reducible refine wpBi .eql 48 (.tmp 29) (.tmp 30) 48 ?_); refine wpList_value_g (by rfl) (exec_eq48 (.tmp 29) (.tmp 30) rfl [x0, x1, x2, x3, x4, x5, x6] [0, 0, 0, 0, 0, 0, 0] rfl rfl rfl rfl false hzz) ?_)
        | ((with_reducible refine gate_dst (N := 34) rfl ?_); refine Kd.R_lit Kd.string (w0 := wo) wo.heap.size 9 ?hg (N := 34) ?hd (xs := [nameN n]) (inner := [.string (nameN n)]) (ok := fun _ => True) (okp := fun _ => True) ?hr ?hp (fun _ hk => hk) trivial B906.out ?hsz (by simp) ?_; (case hd => rfl); (case hg => rfl); (case hr => first | (go_simp; done) | (go_simp; rfl)); (case hp => exact (Reps.one (show Kd.M Kd.string _ _ _ (nameN n) [.string (nameN n)] from rfl) (Reps.none _ _))); (case hsz => exact B906.out.size); intro vV w6 ho hb hg_ hnew_; have C_1900 := Aside0.mk ((hg_.block _ (blk_lt C_905.out) (by simp)).trans C_905.out); have V_1900 := Aside0.mk ho; have B1900 := Aside0.mk hb; clear ho hb hg_ hnew_ C_905 B906))
      clear nM hzz
      refine (numbers_T (wo.heap.size) 0 _).mono ?_
      rintro e_ w7 ⟨vP, rfl, hR, hb⟩
      obtain ⟨AP, cP, eP, -, -⟩ := Kd.R_reads hR
      have eP' : vP = .slice AP 7 cP := eP
      subst eP'
      clear eP
      have P_2900 := Aside0.mk (Kd.R_lower hR B1900.out.size)
      have C_2900 := Aside0.mk (blk_below C_1900.out hb)
      have V_2900 := Aside0.mk (Kd.R_below V_1900.out hb)
      have B2900 := Aside0.mk (below_step B1900.out hb)
      clear hR hb C_1900 V_1900 B1900
      go_wp2_with fail
      go_loopg [7, 37] 7 (fun kq v7 v37 w' => ∃ (i : Nat) (vV : Value), v7 = vV ∧ v37 = .int .i64 (i : Int) ∧ Aside0 (i + kq = 7) ∧ Aside0 (Below wo.heap.size wo w') ∧ Aside0 (w'.heap[wo.heap.size]? = some (.cells (TV [x0, x1, x2, x3, x4, x5, x6]) 48 (0, 0))) ∧ Aside0 (kp.R 87 w' wo.heap.size (fun _ => True) (.slice AP 7 cP) (nums (wo.heap.size) 0)) ∧ Aside0 (Kd.R Kd.string 9 w' wo.heap.size (fun _ => True) vV (wordsU l n i)))
      case atStart => exact ⟨0, vV, rfl, rfl, ⟨rfl⟩, B2900, C_2900, P_2900, V_2900⟩
      case round =>
        clear B2900 C_2900 P_2900 V_2900
        obtain ⟨i, _, rfl, rfl, HJ, B3900, C_3900, P_3900, V_3900⟩ := hrel
        by_cases hj : i < 7
        · have d2 : decide ((i : Int) < 7) = true := decide_eq_true (by omega)
          have q2 := Aside0.mk hj
          obtain ⟨ki, rfl⟩ : ∃ m, gk = m + 1 := ⟨gk - 1, by have := HJ.out; omega⟩
          have r0 := eq_true (show (0 : Int) ≤ (i : Int) by omega)
          have r1 := eq_true (show (i : Int) < 7 by omega)
          have r2 := eq_true hj
          have wj : wrap64 ((i : Int) + 1) = ((i + 1 : Nat) : Int) := by have := q2.out; unfold wrap64; omega
          obtain ⟨pP, eP_, xP⟩ := at_n P_3900.out i hj
          subst eP_
          have nP : wr.cell? (pP.add i) = some (.pointer (some ⟨wo.heap.size, i, none⟩)) := xP
          clear xP
          have gx := TV_get [x0, x1, x2, x3, x4, x5, x6] i (by show i < 7; exact hj)
          rw [← HX.out i hj] at gx
          have hm := HIT.out _ (HI.out.at (1 + n * 7 + i))
          have HS := Aside0.mk (show wordsU l n (i + 1) = wordsU l n i ++ [itB (l.getD (1 + n * 7 + i) 0)] from rfl)
          have HLW := Aside0.mk (wordsU_len l n i)
          generalize l.getD (1 + n * 7 + i) 0 = x at gx hm HS
          have cC := (blk_cell C_3900.out i).trans gx
          clear hj gx
          go_wp2_with fail
          clear nP cC
          refine (itoaG.calls _ _ _ hm HT.out (below_step B900.out B3900.out)).mono ?_
          rintro e_ w8 ⟨rfl, hb⟩
          have C_3901 := Aside0.mk (blk_below C_3900.out hb)
          have V_3902 := Aside0.mk (Kd.R_below V_3900.out hb)
          have P_3903 := Aside0.mk (Kd.R_below P_3900.out hb)
          have B3904 := Aside0.mk (below_step B3900.out hb)
          clear hb C_3900 V_3900 P_3900 B3900
          clear hm
          go_wp2_with (first
            | ((with_reducible refine gate_builtin (b := .append) (xs := #[.tmp 41, .tmp 46]) rfl ?_); at_builtin; refine Kd.R_append Kd.string (w0 := wo) wo.heap.size rfl (.tmp 41) (.tmp 46) 62 9 (.string ⟨#[]⟩) 16 rfl Tryd.underlying62 inf9 rfl (by decide) (by omega) u7 (wordsU l n i) (itB x) [.string (itB x)] (fun _ => True) (fun _ => False) rfl rfl rfl (fun _ h => h.elim) (fun _ _ => trivial) V_3902.out B3904.out B3904.out.size (by have := HLW.out; have := q2.out; omega) ?_; intro vX w9 ho hb hg_ hat_; have C_4900 := Aside0.mk ((hg_.block _ (blk_lt C_3901.out) (Kd.R_ne V_3902.out C_3901.out (by decide))).trans C_3901.out); have P_4900 := Aside0.mk (p_grown P_3903.out V_3902.out hg_); have V_4900 := Aside0.mk (show Kd.R Kd.string 9 w9 wo.heap.size (fun _ => True) vX (wordsU l n (i + 1)) from by rw [HS.out]; exact ho); have B4900 := Aside0.mk hb; clear ho hb hg_ hat_ C_3901 P_3903 V_3902 B3904))
          go_roundg ki
          case rel => exact ⟨i + 1, vX, rfl, by first | rfl | rw [wj], ⟨by have := HJ.out; omega⟩, B4900, C_4900, P_4900, V_4900⟩
          case measure => exact Nat.lt_succ_self _
        · have d2 : decide ((i : Int) < 7) = false := decide_eq_false (by omega)
          obtain rfl : i = 7 := by have := HJ.out; omega
          clear hj HJ
          obtain ⟨gV, cV, eV, hgV, hcV, hCV⟩ := row_cells V_3900.out (by rw [wordsU_len]; omega)
          subst eV
          have HCV := Aside0.mk hCV
          have HGV := Aside0.mk hgV
          have HCC := Aside0.mk hcV
          clear hCV hgV hcV
          have hJ := Tryd.strings_Join gV 0 cV (wordsU l n 7) ⟨#[32]⟩ wr HCV.out HGV.out (by rw [wordsU_len]; omega) HCC.out (join_size HI.out n)
          rw [join_row] at hJ
          have hw8 := wordsU_len l n 7
          go_wp2_with fail
          rw [hw8] at hJ
          refine (hJ).mono ?_
          rintro e_ w8 ⟨rfl, hb⟩
          have C_3901 := Aside0.mk (blk_below C_3900.out hb)
          have V_3902 := Aside0.mk (Kd.R_below V_3900.out hb)
          have P_3903 := Aside0.mk (Kd.R_below P_3900.out hb)
          have B3904 := Aside0.mk (below_step B3900.out hb)
          clear hb C_3900 V_3900 P_3900 B3900
          clear hJ hw8
          have W_5900 := Aside0.mk (Kd.R_below W_900.out B3904.out)
          have M_5900 := Aside0.mk (Kd.R_below M_900.out B3904.out)
          have T_5900 := Aside0.mk (blk_below T_901.out B3904.out)
          have B5900 := Aside0.mk (below_step B900.out B3904.out)
          clear C_3901 V_3902 P_3903
          generalize rowS l n 7 = rs at HU ⊢
          go_wp2_with (first
            | ((with_reducible refine gate_builtin (b := .append) (xs := #[.tmp 49, .tmp 52]) rfl ?_); at_builtin; refine Kd.R_append Kd.string (w0 := w) w.heap.size rfl (.tmp 49) (.tmp 52) 62 9 (.string ⟨#[]⟩) 16 rfl Tryd.underlying62 inf9 rfl (by decide) (by omega) u3 (linesU l n) rs [.string rs] (fun _ => True) (fun _ => False) rfl rfl rfl (fun _ h => h.elim) (fun _ _ => trivial) W_5900.out B5900.out B5900.out.size (by have := HLN.out; have := q1.out; omega) ?_; intro vX w9 ho hb hg_ hat_; have T_6900 := Aside0.mk ((hg_.block _ (blk_lt T_5900.out) (Kd.R_ne W_5900.out T_5900.out (by decide))).trans T_5900.out); have M_6900 := Aside0.mk (s_grown M_5900.out hg_ hat_); have W_6900 := Aside0.mk (show Kd.R Kd.string 9 w9 w.heap.size (fun _ => True) vX (linesU l (n + 1)) from by rw [HU.out]; exact ho); have B6900 := Aside0.mk hb; clear ho hb hg_ hat_ W_5900 M_5900 T_5900 B5900))
          go_roundg ko
          case rel => exact ⟨n + 1, vX, rfl, by first | rfl | rw [wi], ⟨by have := HK.out; omega⟩, B6900, T_6900, W_6900, M_6900⟩
          case measure => exact Nat.lt_succ_self _
    · have d1 : decide ((n : Int) < 9) = false := decide_eq_false (by omega)
      obtain rfl : n = 9 := by have := HK.out; omega
      clear hi HK
      go_wp2_with fail
      go_ret
      exact ⟨_, rfl, W_900.out, B900.out⟩
end Go.Proofs.YtcncndhoeiaoeaaDoor.PTallyExact

