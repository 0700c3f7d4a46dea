/-
The law TallyExact.
-/
import Derived.Test.YtcncndhoeiaoeaaDoorTalS
import Derived.Test.YtcncndhoeiaoeaaDoorTalG
namespace Go.Proofs.YtcncndhoeiaoeaaDoor.PTallyExact
open Go Go.RowKit Go.Proofs.YtcncndhoeiaoeaaDoorW.PrintWords Go.Proofs.YtcncndhoeiaoeaaDoorW.PrintLast Go.Proofs.YtcncndhoeiaoeaaDoorW.PrintMore
attribute [local go_sem] max2_int min2_int max_two min_two max_three min_three max_four min_four
set_option linter.unusedVariables false
set_option linter.unusedSimpArgs false
def toU (e : S78) : S82 := ⟨e.f1, e.f2, e.f3, e.f4, e.f5, e.f6, e.f7⟩
theorem events_f (es : List S78) (h : es.length ≤ 200) : revenantlaw35_events.f (es.length + 1) es = some (es.map toU) := by
  have : ∀ n i, i + n = es.length → revenantlaw35_events.l0 (n + 1) es ((es.take i).map toU) (i : Int) = some (es.map toU) := by
    intro n
    induction n with
    | zero =>
      intro i hi
      unfold revenantlaw35_events.l0
      rw [if_neg (by omega), List.take_of_length_le (by omega)]
    | succ n ih =>
      intro i hi
      unfold revenantlaw35_events.l0
      have hlt : i < es.length := by omega
      rw [if_pos (by omega), if_pos (by omega), if_pos (by simp; omega)]
      have hw : wrap64 ((i : Int) + 1) = ((i + 1 : Nat) : Int) := by unfold wrap64; omega
      have he : rd_T78 es (i : Int) = es[i] := by unfold rd_T78; rw [Int.toNat_natCast, List.getD_eq_getElem?_getD, List.getElem?_eq_getElem hlt]; rfl
      rw [hw, he]
      have := ih (i + 1) (by omega)
      rw [List.take_succ_eq_append_getElem hlt, List.map_append] at this
      exact this
  exact this es.length 0 (by omega)
theorem ofV_toU (es : List S78) : ofV ((es.map toU).map toE) = ofV es := by
  unfold ofV
  rw [List.map_map, List.foldl_map]
  rfl
theorem wrap64_in (x : Int) : -9223372036854775808 ≤ wrap64 x ∧ wrap64 x ≤ 9223372036854775807 := by unfold wrap64; omega
theorem ints_bump {l : List Int} (h : Ints l) (i : Nat) : Ints (bump l i) := by
  intro x hx
  rcases List.mem_or_eq_of_mem_set hx with h1 | rfl
  · exact h x h1
  · exact wrap64_in _
theorem ints_over {l : List Int} (h : Ints l) (o : Nat) (er : Int) (dn : Bool) : Ints (overV l o er dn) := by
  unfold overV
  repeat' split
  all_goals first | exact ints_bump (ints_bump h _) _ | exact ints_bump h _
theorem ints_step {l : List Int} (h : Ints l) (e : S78) : Ints (stepE l e) := by
  unfold stepE
  repeat' split
  all_goals first | exact ints_bump (ints_bump h _) _ | exact ints_bump h _ | exact h | exact ints_over (ints_bump (ints_bump h _) _) _ _ _ | exact ints_over (ints_bump h _) _ _ _
theorem ofV_ints (es : List S78) : Ints (ofV es) := by
  unfold ofV
  have : ∀ (es : List S78) (a : List Int), Ints a → Ints (es.foldl stepE a) := by
    intro es
    induction es with
    | nil => intro a ha; exact ha
    | cons x r ih => intro a ha; exact ih _ (ints_step ha x)
  exact this es zero64 (by intro x hx; obtain rfl := List.eq_of_mem_replicate hx; omega)
theorem exec_ne56s {o : Oper} {a : Act} {w : World} (p q : Operand) (ho : o.op = .binOp .neq 56 p q 56) (l : List Int) (hp : a.eval p = .agg (TV l)) (hq : a.eval q = .agg (TV l)) (hl : l.length = 64) : (execOp a.eval o).run Tryd.prog w = .ok (.value (.bool false)) w :=
  exec_ne56 p q ho l l hp hq hl hl true (decide_eq_true rfl)
theorem at_cell {W : World} {B c m : Nat} {p : Addr} {ok : Nat → Prop} {xs : List ByteArray} (h : Kd.R Kd.string 9 W B ok (.slice (some p) m c) xs) (hm : m = xs.length) (i : Nat) (h1 : i < m) (x : ByteArray) (hx : xs.getD i ⟨#[]⟩ = x) : W.cell? (p.add i) = some (.string x) := by
  rw [← hx]; exact at_s' h hm i h1
set_option maxHeartbeats 64000000 in
set_option maxRecDepth 100000 in
theorem tallyExact_T (es : List S78) (A0 : Option Addr) (c0 : Nat) (w : World) (hr : Kd.C k78 w A0 es.length es) (hc : es.length ≤ c0) (hT : TabW w) :
    Calls Tryd.prog 7 #[.slice A0 es.length c0] w fun e w' => e = .returned (.bool true) ∧ Below w.heap.size w w' := by
  have hu51 := Tryd.underlying51
  have hu56 := Tryd.underlying56
  have hu54 := Tryd.underlying54
  have hu53 := Tryd.underlying53
  have hu62 := Tryd.underlying62
  have hu46 := Tryd.underlying46
  have HR0 := Aside0.mk hr
  have HC0 := Aside0.mk hc
  have HT := Aside0.mk hT
  have hn := hr.2.1
  clear hr hc hT
  go_enter Tryd.func7, Tryd.ntmps7
  go_wp2_with fail
  refine (awake_T _ HT.out).mono ?_
  rintro e_ w1 ⟨rfl, hb⟩
  have B1 := Aside0.mk (below_step (Below.refl w.heap.size w) hb)
  clear hb 
  by_cases hlen : 200 < es.length
  · have d0 : decide ((es.length : Int) > 200) = true := decide_eq_true (by omega)
    have d1 := eq_true (show (es.length : Int) > 200 by omega)
    have d2 := eq_true (show 200 < es.length by omega)
    clear hn
    go_wp2_with fail
    go_ret
    exact ⟨rfl, B1.out⟩
  have d0 : decide ((es.length : Int) > 200) = false := decide_eq_false (by omega)
  have d1 := eq_false (show ¬ (es.length : Int) > 200 by omega)
  have d2 := eq_false (show ¬ 200 < es.length by omega)
  have HN := Aside0.mk (show es.length ≤ 200 by omega)
  clear hlen hn
  go_wp2_with fail
  obtain ⟨l, hl0⟩ : ∃ l, ofV es = l := ⟨_, rfl⟩
  have hll := ofV_len es
  have hli := ofV_ints es
  have hlU := ofV_toU es
  rw [hl0] at hll hli hlU
  refine (of_T A0 c0 es _ (Kd.C_below HR0.out B1.out) (by have := HN.out; omega)).mono ?_
  rintro e_ w2 ⟨rfl, hb⟩
  rw [hl0]
  have B2 := Aside0.mk (below_step B1.out hb)
  clear hb B1
  have L_T := Aside0.mk (show w.heap.size ≤ w2.heap.size from B2.out.size)
  have T_3 := Aside0.mk (blk_new (w2) (.cells #[.int .i64 0, .int .i64 0, .int .i64 0, .int .i64 0, .int .i64 0, .int .i64 0, .int .i64 0, .int .i64 0, .int .i64 0, .int .i64 0, .int .i64 0, .int .i64 0, .int .i64 0, .int .i64 0, .int .i64 0, .int .i64 0, .int .i64 0, .int .i64 0, .int .i64 0, .int .i64 0, .int .i64 0, .int .i64 0, .int .i64 0, .int .i64 0, .int .i64 0, .int .i64 0, .int .i64 0, .int .i64 0, .int .i64 0, .int .i64 0, .int .i64 0, .int .i64 0, .int .i64 0, .int .i64 0, .int .i64 0, .int .i64 0, .int .i64 0, .int .i64 0, .int .i64 0, .int .i64 0, .int .i64 0, .int .i64 0, .int .i64 0, .int .i64 0, .int .i64 0, .int .i64 0, .int .i64 0, .int .i64 0, .int .i64 0, .int .i64 0, .int .i64 0, .int .i64 0, .int .i64 0, .int .i64 0, .int .i64 0, .int .i64 0, .int .i64 0, .int .i64 0, .int .i64 0, .int .i64 0, .int .i64 0, .int .i64 0, .int .i64 0, .int .i64 0] 51))
  have B4 := Aside0.mk (below_alloc B2.out (.cells #[.int .i64 0, .int .i64 0, .int .i64 0, .int .i64 0, .int .i64 0, .int .i64 0, .int .i64 0, .int .i64 0, .int .i64 0, .int .i64 0, .int .i64 0, .int .i64 0, .int .i64 0, .int .i64 0, .int .i64 0, .int .i64 0, .int .i64 0, .int .i64 0, .int .i64 0, .int .i64 0, .int .i64 0, .int .i64 0, .int .i64 0, .int .i64 0, .int .i64 0, .int .i64 0, .int .i64 0, .int .i64 0, .int .i64 0, .int .i64 0, .int .i64 0, .int .i64 0, .int .i64 0, .int .i64 0, .int .i64 0, .int .i64 0, .int .i64 0, .int .i64 0, .int .i64 0, .int .i64 0, .int .i64 0, .int .i64 0, .int .i64 0, .int .i64 0, .int .i64 0, .int .i64 0, .int .i64 0, .int .i64 0, .int .i64 0, .int .i64 0, .int .i64 0, .int .i64 0, .int .i64 0, .int .i64 0, .int .i64 0, .int .i64 0, .int .i64 0, .int .i64 0, .int .i64 0, .int .i64 0, .int .i64 0, .int .i64 0, .int .i64 0, .int .i64 0] 51))
  clear B2
  obtain ⟨us, hus⟩ : ∃ us, es.map toU = us := ⟨_, rfl⟩
  have hev := events_f es HN.out
  have HUL := Aside0.mk (show us.length = es.length from by rw [← hus, List.length_map])
  rw [hus] at hev hlU
  clear hus hl0
  go_wp2_with (first
    | ((with_reducible refine wpSt 51 (.tmp 3) (.tmp 16) ?_); refine store_whole (w := w) (B := w.heap.size) rfl rfl 51 (.tmp 3) (.tmp 16) rfl (g := w2.heap.size) (cs := TV l) rfl _ rfl rfl (tot51 _ (by first | assumption | (simp [zero64]; done))) (TV_one _) T_3.out (by first | (simp [TV_size, zero64]; done) | (simp [TV_size, zero64]; omega) | (rw [TV_size, TV_size]; simp [zero64]; omega)) L_T.out B4.out ?_; intro w_5 h1 h2 h3 h4; have T_6 := Aside0.mk (h1); have B7 := Aside0.mk (h2); clear h1 h2 h3 h4 T_3 B4))
  refine (revenantlaw35_events.calls (es.length + 1) A0 c0 es us _ (Kd.C_below HR0.out B7.out) HC0.out hev).mono ?_
  rintro e_ w4 ⟨v0, rfl, hR, hb⟩
  have T_8 := Aside0.mk (blk_below T_6.out hb)
  obtain ⟨A1, c1, rfl, hc1, hC1⟩ := Kd.R_reads hR
  have HC1 := Aside0.mk hC1
  clear hR hC1 hc1
  have B9 := Aside0.mk (below_step B7.out hb)
  clear hb T_6 B7
  go_wp2_with fail
  refine (refOf_T A1 c1 us _ HC1.out (by have := HN.out; have := HUL.out; omega)).mono ?_
  rintro e_ w5 ⟨rfl, hb⟩
  rw [hlU]
  have T_10 := Aside0.mk (blk_below T_8.out hb)
  have B11 := Aside0.mk (below_step B9.out hb)
  clear hb T_8 B9
  clear HC1 hev hlU HUL
  have L_U := Aside0.mk (show w.heap.size ≤ w5.heap.size from B11.out.size)
  have NE_T_U := Aside0.mk (show w2.heap.size ≠ w5.heap.size by have := blk_lt T_10.out; omega)
  have T_12 := Aside0.mk (blk_alloc T_10.out (.cells #[.int .i64 0, .int .i64 0, .int .i64 0, .int .i64 0, .int .i64 0, .int .i64 0, .int .i64 0, .int .i64 0, .int .i64 0, .int .i64 0, .int .i64 0, .int .i64 0, .int .i64 0, .int .i64 0, .int .i64 0, .int .i64 0, .int .i64 0, .int .i64 0, .int .i64 0, .int .i64 0, .int .i64 0, .int .i64 0, .int .i64 0, .int .i64 0, .int .i64 0, .int .i64 0, .int .i64 0, .int .i64 0, .int .i64 0, .int .i64 0, .int .i64 0, .int .i64 0, .int .i64 0, .int .i64 0, .int .i64 0, .int .i64 0, .int .i64 0, .int .i64 0, .int .i64 0, .int .i64 0, .int .i64 0, .int .i64 0, .int .i64 0, .int .i64 0, .int .i64 0, .int .i64 0, .int .i64 0, .int .i64 0, .int .i64 0, .int .i64 0, .int .i64 0, .int .i64 0, .int .i64 0, .int .i64 0, .int .i64 0, .int .i64 0, .int .i64 0, .int .i64 0, .int .i64 0, .int .i64 0, .int .i64 0, .int .i64 0, .int .i64 0, .int .i64 0] 56))
  have U_13 := Aside0.mk (blk_new (w5) (.cells #[.int .i64 0, .int .i64 0, .int .i64 0, .int .i64 0, .int .i64 0, .int .i64 0, .int .i64 0, .int .i64 0, .int .i64 0, .int .i64 0, .int .i64 0, .int .i64 0, .int .i64 0, .int .i64 0, .int .i64 0, .int .i64 0, .int .i64 0, .int .i64 0, .int .i64 0, .int .i64 0, .int .i64 0, .int .i64 0, .int .i64 0, .int .i64 0, .int .i64 0, .int .i64 0, .int .i64 0, .int .i64 0, .int .i64 0, .int .i64 0, .int .i64 0, .int .i64 0, .int .i64 0, .int .i64 0, .int .i64 0, .int .i64 0, .int .i64 0, .int .i64 0, .int .i64 0, .int .i64 0, .int .i64 0, .int .i64 0, .int .i64 0, .int .i64 0, .int .i64 0, .int .i64 0, .int .i64 0, .int .i64 0, .int .i64 0, .int .i64 0, .int .i64 0, .int .i64 0, .int .i64 0, .int .i64 0, .int .i64 0, .int .i64 0, .int .i64 0, .int .i64 0, .int .i64 0, .int .i64 0, .int .i64 0, .int .i64 0, .int .i64 0, .int .i64 0] 56))
  have B14 := Aside0.mk (below_alloc B11.out (.cells #[.int .i64 0, .int .i64 0, .int .i64 0, .int .i64 0, .int .i64 0, .int .i64 0, .int .i64 0, .int .i64 0, .int .i64 0, .int .i64 0, .int .i64 0, .int .i64 0, .int .i64 0, .int .i64 0, .int .i64 0, .int .i64 0, .int .i64 0, .int .i64 0, .int .i64 0, .int .i64 0, .int .i64 0, .int .i64 0, .int .i64 0, .int .i64 0, .int .i64 0, .int .i64 0, .int .i64 0, .int .i64 0, .int .i64 0, .int .i64 0, .int .i64 0, .int .i64 0, .int .i64 0, .int .i64 0, .int .i64 0, .int .i64 0, .int .i64 0, .int .i64 0, .int .i64 0, .int .i64 0, .int .i64 0, .int .i64 0, .int .i64 0, .int .i64 0, .int .i64 0, .int .i64 0, .int .i64 0, .int .i64 0, .int .i64 0, .int .i64 0, .int .i64 0, .int .i64 0, .int .i64 0, .int .i64 0, .int .i64 0, .int .i64 0, .int .i64 0, .int .i64 0, .int .i64 0, .int .i64 0, .int .i64 0, .int .i64 0, .int .i64 0, .int .i64 0] 56))
  clear T_10 B11
  have g11 := TV_get l 11 (by omega)
  obtain ⟨x11, e11⟩ : ∃ x, l.getD 11 0 = x := ⟨_, rfl⟩
  rw [e11] at g11
  have g39 := TV_get l 39 (by omega)
  obtain ⟨x39, e39⟩ : ∃ x, l.getD 39 0 = x := ⟨_, rfl⟩
  rw [e39] at g39
  have g33 := TV_get l 33 (by omega)
  obtain ⟨x33, e33⟩ : ∃ x, l.getD 33 0 = x := ⟨_, rfl⟩
  rw [e33] at g33
  have g18 := TV_get l 18 (by omega)
  obtain ⟨x18, e18⟩ : ∃ x, l.getD 18 0 = x := ⟨_, rfl⟩
  rw [e18] at g18
  have g46 := TV_get l 46 (by omega)
  obtain ⟨x46, e46⟩ : ∃ x, l.getD 46 0 = x := ⟨_, rfl⟩
  rw [e46] at g46
  have HNET := Aside0.mk (show netV l = wrap64 (wrap64 (wrap64 (wrap64 (x11 + x39) + x33) - x18) - x46) from by unfold netV; rw [e11, e39, e33, e18, e46])
  clear e11 e39 e33 e18 e46
  go_wp2_with (first
    | ((with_reducible refine wpSt 56 (.tmp 4) (.tmp 19) ?_); refine store_whole (w := w) (B := w.heap.size) rfl rfl 56 (.tmp 4) (.tmp 19) rfl (g := w5.heap.size) (cs := TV l) rfl _ rfl rfl (tot56 _ (by first | assumption | (simp [zero64]; done))) (TV_one _) U_13.out (by first | (simp [TV_size, zero64]; done) | (simp [TV_size, zero64]; omega) | (rw [TV_size, TV_size]; simp [zero64]; omega)) L_U.out B14.out ?_; intro w_15 h1 h2 h3 h4; have T_16 := Aside0.mk ((h3 _ NE_T_U.out).trans T_12.out); have U_17 := Aside0.mk (h1); have B18 := Aside0.mk (h2); clear h1 h2 h3 h4 T_12 U_13 B14))
  refine start_ (n := 33) (S := fun w' => w'.heap[w2.heap.size]? = some (.cells (TV l) 51 (0, 0)) ∧ w'.heap[w5.heap.size]? = some (.cells (TV l) 56 (0, 0)) ∧ w'.cell? ⟨w5.heap.size, 11, none⟩ = some (.int .i64 x11) ∧ w'.cell? ⟨w5.heap.size, 39, none⟩ = some (.int .i64 x39) ∧ w'.cell? ⟨w5.heap.size, 33, none⟩ = some (.int .i64 x33) ∧ w'.cell? ⟨w5.heap.size, 18, none⟩ = some (.int .i64 x18) ∧ w'.cell? ⟨w5.heap.size, 46, none⟩ = some (.int .i64 x46)) (ds := []) #[false, false, false, false, false, false, false, false, false, false, false, false, false, false, false, false, false, false, false, false, false, false, false, false, false, false, false, false, false, false, false, false, false] (by kernel_rfl) rfl rfl ⟨(blk_drew T_16.out), (blk_drew U_17.out), (blk_cell (blk_drew U_17.out) 11).trans g11, (blk_cell (blk_drew U_17.out) 39).trans g39, (blk_cell (blk_drew U_17.out) 33).trans g33, (blk_cell (blk_drew U_17.out) 18).trans g18, (blk_cell (blk_drew U_17.out) 46).trans g46⟩ (fun hHeld => ?_)
  refine take_ (i := 0) (N := some 20) (v := ?_) (a' := ?_) #[true, false, false, false, false, false, false, false, false, false, false, false, false, false, false, false, false, false, false, false, false, false, false, false, false, false, false, false, false, false, false, false, false] rfl rfl (by kernel_rfl) (fun _ _ _ h => h) (Or.inl ⟨by rfl, ?_⟩) hHeld ?_ ?_
  rotate_left
  · rintro w' ⟨s0, s1, s2, s3, s4, s5, s6⟩
    refine exec_load_row 51 (.tmp 3) ?_ _ ?_ 51 (TV l) (0, 0) _ s0 Tryd.underlying51 rfl (info51 _ (by first | assumption | (simp; done))) <;> rfl
  rotate_left
  · simp only [Act.put, List.setIfInBounds_toArray, List.set_cons_zero, List.set_cons_succ, i64_w, i32_w]
    rfl
  refine take_ (i := 2) (N := some 22) (v := ?_) (a' := ?_) #[true, false, true, false, false, false, false, false, false, false, false, false, false, false, false, false, false, false, false, false, false, false, false, false, false, false, false, false, false, false, false, false, false] rfl rfl (by kernel_rfl) (fun _ _ _ h => h) (Or.inl ⟨by rfl, ?_⟩) hHeld ?_ ?_
  rotate_left
  · rintro w' ⟨s0, s1, s2, s3, s4, s5, s6⟩
    refine exec_load_row 56 (.tmp 4) ?_ _ ?_ 56 (TV l) (0, 0) _ s1 Tryd.underlying56 rfl (info56 _ (by first | assumption | (simp; done))) <;> rfl
  rotate_left
  · simp only [Act.put, List.setIfInBounds_toArray, List.set_cons_zero, List.set_cons_succ, i64_w, i32_w]
    rfl
  refine one_ (i := 1) (N := some 21) #[true, true, true, false, false, false, false, false, false, false, false, false, false, false, false, false, false, false, false, false, false, false, false, false, false, false, false, false, false, false, false, false, false] rfl rfl (by kernel_rfl) (by decide) (fun K hK => ?_)
  refine goes_ Tryd.func31 (by kernel_rfl) rfl #[.agg (TV l)] (by rfl) rfl rfl (by simp only [List.map_toArray, List.map_cons, List.map_nil]; rfl) ?_
  with_reducible refine (form_T l _ hll).mono ?_
  rintro e_ w6 ⟨rfl, hb⟩
  refine ⟨_, rfl, ?_⟩
  have T_19 := Aside0.mk (blk_below (blk_drew T_16.out) hb)
  have U_20 := Aside0.mk (blk_below (blk_drew U_17.out) hb)
  have B21 := Aside0.mk (below_step (below_drew B18.out) hb)
  clear hb T_16 U_17 B18
  refine hK.out _ _ ⟨T_19.out, U_20.out, (blk_cell U_20.out 11).trans g11, (blk_cell U_20.out 39).trans g39, (blk_cell U_20.out 33).trans g33, (blk_cell U_20.out 18).trans g18, (blk_cell U_20.out 46).trans g46⟩ (fun hHeld => ?_)
  clear hK K
  refine norm_ (a' := ?_) ?_ ?_
  rotate_left
  · show Act.put _ (some 21) _ = _
    simp only [Act.put, List.setIfInBounds_toArray, List.set_cons_zero, List.set_cons_succ, i64_w, i32_w]
    rfl
  refine pure_ (i := 3) (N := some 23) (v := ?_) (a' := ?_) #[true, true, true, true, false, false, false, false, false, false, false, false, false, false, false, false, false, false, false, false, false, false, false, false, false, false, false, false, false, false, false, false, false] rfl rfl (by kernel_rfl) (fun _ _ _ h => h) (Or.inl ⟨by rfl, ?_⟩) ?_ ?_
  rotate_left
  · intro w'
    refine exec_ne56s (.tmp 21) (.tmp 22) ?_ l ?_ ?_ hll <;> rfl
  rotate_left
  · simp only [Act.put, List.setIfInBounds_toArray, List.set_cons_zero, List.set_cons_succ, i64_w, i32_w]
    rfl
  refine pure_ (i := 4) (N := some 24) (v := ?_) (a' := ?_) #[true, true, true, true, true, false, false, false, false, false, false, false, false, false, false, false, false, false, false, false, false, false, false, false, false, false, false, false, false, false, false, false, false] rfl rfl (by kernel_rfl) (fun _ _ _ h => h) (Or.inl ⟨by rfl, ?_⟩) ?_ ?_
  rotate_left
  · intro w'
    go_simp
    with_reducible rfl
  rotate_left
  · simp only [Act.put, List.setIfInBounds_toArray, List.set_cons_zero, List.set_cons_succ, i64_w, i32_w]
    rfl
  refine pure_ (i := 7) (N := some 27) (v := ?_) (a' := ?_) #[true, true, true, true, true, false, false, true, false, false, false, false, false, false, false, false, false, false, false, false, false, false, false, false, false, false, false, false, false, false, false, false, false] rfl rfl (by kernel_rfl) (fun _ _ _ h => h) (Or.inl ⟨by rfl, ?_⟩) ?_ ?_
  rotate_left
  · intro w'
    go_simp
    with_reducible rfl
  rotate_left
  · simp only [Act.put, List.setIfInBounds_toArray, List.set_cons_zero, List.set_cons_succ, i64_w, i32_w]
    rfl
  refine pure_ (i := 8) (N := some 28) (v := ?_) (a' := ?_) #[true, true, true, true, true, false, false, true, true, false, false, false, false, false, false, false, false, false, false, false, false, false, false, false, false, false, false, false, false, false, false, false, false] rfl rfl (by kernel_rfl) (fun _ _ _ h => h) (Or.inl ⟨by rfl, ?_⟩) ?_ ?_
  rotate_left
  · intro w'
    go_simp
    with_reducible rfl
  rotate_left
  · simp only [Act.put, List.setIfInBounds_toArray, List.set_cons_zero, List.set_cons_succ, i64_w, i32_w]
    rfl
  refine pure_ (i := 9) (N := some 29) (v := ?_) (a' := ?_) #[true, true, true, true, true, false, false, true, true, true, false, false, false, false, false, false, false, false, false, false, false, false, false, false, false, false, false, false, false, false, false, false, false] rfl rfl (by kernel_rfl) (fun _ _ _ h => h) (Or.inl ⟨by rfl, ?_⟩) ?_ ?_
  rotate_left
  · intro w'
    go_simp
    with_reducible rfl
  rotate_left
  · simp only [Act.put, List.setIfInBounds_toArray, List.set_cons_zero, List.set_cons_succ, i64_w, i32_w]
    rfl
  refine pure_ (i := 11) (N := some 31) (v := ?_) (a' := ?_) #[true, true, true, true, true, false, false, true, true, true, false, true, false, false, false, false, false, false, false, false, false, false, false, false, false, false, false, false, false, false, false, false, false] rfl rfl (by kernel_rfl) (fun _ _ _ h => h) (Or.inl ⟨by rfl, ?_⟩) ?_ ?_
  rotate_left
  · intro w'
    go_simp
    with_reducible rfl
  rotate_left
  · simp only [Act.put, List.setIfInBounds_toArray, List.set_cons_zero, List.set_cons_succ, i64_w, i32_w]
    rfl
  refine pure_ (i := 12) (N := some 32) (v := ?_) (a' := ?_) #[true, true, true, true, true, false, false, true, true, true, false, true, true, false, false, false, false, false, false, false, false, false, false, false, false, false, false, false, false, false, false, false, false] rfl rfl (by kernel_rfl) (fun _ _ _ h => h) (Or.inl ⟨by rfl, ?_⟩) ?_ ?_
  rotate_left
  · intro w'
    go_simp
    with_reducible rfl
  rotate_left
  · simp only [Act.put, List.setIfInBounds_toArray, List.set_cons_zero, List.set_cons_succ, i64_w, i32_w]
    rfl
  refine pure_ (i := 13) (N := some 33) (v := ?_) (a' := ?_) #[true, true, true, true, true, false, false, true, true, true, false, true, true, true, false, false, false, false, false, false, false, false, false, false, false, false, false, false, false, false, false, false, false] rfl rfl (by kernel_rfl) (fun _ _ _ h => h) (Or.inl ⟨by rfl, ?_⟩) ?_ ?_
  rotate_left
  · intro w'
    go_simp
    with_reducible rfl
  rotate_left
  · simp only [Act.put, List.setIfInBounds_toArray, List.set_cons_zero, List.set_cons_succ, i64_w, i32_w]
    rfl
  refine pure_ (i := 16) (N := some 36) (v := ?_) (a' := ?_) #[true, true, true, true, true, false, false, true, true, true, false, true, true, true, false, false, true, false, false, false, false, false, false, false, false, false, false, false, false, false, false, false, false] rfl rfl (by kernel_rfl) (fun _ _ _ h => h) (Or.inl ⟨by rfl, ?_⟩) ?_ ?_
  rotate_left
  · intro w'
    go_simp
    with_reducible rfl
  rotate_left
  · simp only [Act.put, List.setIfInBounds_toArray, List.set_cons_zero, List.set_cons_succ, i64_w, i32_w]
    rfl
  refine pure_ (i := 17) (N := some 37) (v := ?_) (a' := ?_) #[true, true, true, true, true, false, false, true, true, true, false, true, true, true, false, false, true, true, false, false, false, false, false, false, false, false, false, false, false, false, false, false, false] rfl rfl (by kernel_rfl) (fun _ _ _ h => h) (Or.inl ⟨by rfl, ?_⟩) ?_ ?_
  rotate_left
  · intro w'
    go_simp
    with_reducible rfl
  rotate_left
  · simp only [Act.put, List.setIfInBounds_toArray, List.set_cons_zero, List.set_cons_succ, i64_w, i32_w]
    rfl
  refine pure_ (i := 18) (N := some 38) (v := ?_) (a' := ?_) #[true, true, true, true, true, false, false, true, true, true, false, true, true, true, false, false, true, true, true, false, false, false, false, false, false, false, false, false, false, false, false, false, false] rfl rfl (by kernel_rfl) (fun _ _ _ h => h) (Or.inl ⟨by rfl, ?_⟩) ?_ ?_
  rotate_left
  · intro w'
    go_simp
    with_reducible rfl
  rotate_left
  · simp only [Act.put, List.setIfInBounds_toArray, List.set_cons_zero, List.set_cons_succ, i64_w, i32_w]
    rfl
  refine pure_ (i := 21) (N := some 41) (v := ?_) (a' := ?_) #[true, true, true, true, true, false, false, true, true, true, false, true, true, true, false, false, true, true, true, false, false, true, false, false, false, false, false, false, false, false, false, false, false] rfl rfl (by kernel_rfl) (fun _ _ _ h => h) (Or.inl ⟨by rfl, ?_⟩) ?_ ?_
  rotate_left
  · intro w'
    go_simp
    with_reducible rfl
  rotate_left
  · simp only [Act.put, List.setIfInBounds_toArray, List.set_cons_zero, List.set_cons_succ, i64_w, i32_w]
    rfl
  refine pure_ (i := 22) (N := some 42) (v := ?_) (a' := ?_) #[true, true, true, true, true, false, false, true, true, true, false, true, true, true, false, false, true, true, true, false, false, true, true, false, false, false, false, false, false, false, false, false, false] rfl rfl (by kernel_rfl) (fun _ _ _ h => h) (Or.inl ⟨by rfl, ?_⟩) ?_ ?_
  rotate_left
  · intro w'
    go_simp
    with_reducible rfl
  rotate_left
  · simp only [Act.put, List.setIfInBounds_toArray, List.set_cons_zero, List.set_cons_succ, i64_w, i32_w]
    rfl
  refine pure_ (i := 23) (N := some 43) (v := ?_) (a' := ?_) #[true, true, true, true, true, false, false, true, true, true, false, true, true, true, false, false, true, true, true, false, false, true, true, true, false, false, false, false, false, false, false, false, false] rfl rfl (by kernel_rfl) (fun _ _ _ h => h) (Or.inl ⟨by rfl, ?_⟩) ?_ ?_
  rotate_left
  · intro w'
    go_simp
    with_reducible rfl
  rotate_left
  · simp only [Act.put, List.setIfInBounds_toArray, List.set_cons_zero, List.set_cons_succ, i64_w, i32_w]
    rfl
  refine pure_ (i := 26) (N := some 46) (v := ?_) (a' := ?_) #[true, true, true, true, true, false, false, true, true, true, false, true, true, true, false, false, true, true, true, false, false, true, true, true, false, false, true, false, false, false, false, false, false] rfl rfl (by kernel_rfl) (fun _ _ _ h => h) (Or.inl ⟨by rfl, ?_⟩) ?_ ?_
  rotate_left
  · intro w'
    go_simp
    with_reducible rfl
  rotate_left
  · simp only [Act.put, List.setIfInBounds_toArray, List.set_cons_zero, List.set_cons_succ, i64_w, i32_w]
    rfl
  refine pure_ (i := 27) (N := some 47) (v := ?_) (a' := ?_) #[true, true, true, true, true, false, false, true, true, true, false, true, true, true, false, false, true, true, true, false, false, true, true, true, false, false, true, true, false, false, false, false, false] rfl rfl (by kernel_rfl) (fun _ _ _ h => h) (Or.inl ⟨by rfl, ?_⟩) ?_ ?_
  rotate_left
  · intro w'
    go_simp
    with_reducible rfl
  rotate_left
  · simp only [Act.put, List.setIfInBounds_toArray, List.set_cons_zero, List.set_cons_succ, i64_w, i32_w]
    rfl
  refine pure_ (i := 28) (N := some 48) (v := ?_) (a' := ?_) #[true, true, true, true, true, false, false, true, true, true, false, true, true, true, false, false, true, true, true, false, false, true, true, true, false, false, true, true, true, false, false, false, false] rfl rfl (by kernel_rfl) (fun _ _ _ h => h) (Or.inl ⟨by rfl, ?_⟩) ?_ ?_
  rotate_left
  · intro w'
    go_simp
    with_reducible rfl
  rotate_left
  · simp only [Act.put, List.setIfInBounds_toArray, List.set_cons_zero, List.set_cons_succ, i64_w, i32_w]
    rfl
  refine take_ (i := 5) (N := some 25) (v := ?_) (a' := ?_) #[true, true, true, true, true, true, false, true, true, true, false, true, true, true, false, false, true, true, true, false, false, true, true, true, false, false, true, true, true, false, false, false, false] rfl rfl (by kernel_rfl) (fun _ _ _ h => h) (Or.inl ⟨by rfl, ?_⟩) hHeld ?_ ?_
  rotate_left
  · rintro w' ⟨s0, s1, s2, s3, s4, s5, s6⟩
    refine exec_load_row 51 (.tmp 3) ?_ _ ?_ 51 (TV l) (0, 0) _ s0 Tryd.underlying51 rfl (info51 _ (by first | assumption | (simp; done))) <;> rfl
  rotate_left
  · simp only [Act.put, List.setIfInBounds_toArray, List.set_cons_zero, List.set_cons_succ, i64_w, i32_w]
    rfl
  refine take_ (i := 10) (N := some 30) (v := ?_) (a' := ?_) #[true, true, true, true, true, true, false, true, true, true, true, true, true, true, false, false, true, true, true, false, false, true, true, true, false, false, true, true, true, false, false, false, false] rfl rfl (by kernel_rfl) (fun _ _ _ h => h) (Or.inl ⟨by rfl, ?_⟩) hHeld ?_ ?_
  rotate_left
  · rintro w' ⟨s0, s1, s2, s3, s4, s5, s6⟩
    go_simp
    with_reducible rfl
  rotate_left
  · simp only [Act.put, List.setIfInBounds_toArray, List.set_cons_zero, List.set_cons_succ, i64_w, i32_w]
    rfl
  refine take_ (i := 14) (N := some 34) (v := ?_) (a' := ?_) #[true, true, true, true, true, true, false, true, true, true, true, true, true, true, true, false, true, true, true, false, false, true, true, true, false, false, true, true, true, false, false, false, false] rfl rfl (by kernel_rfl) (fun _ _ _ h => h) (Or.inl ⟨by rfl, ?_⟩) hHeld ?_ ?_
  rotate_left
  · rintro w' ⟨s0, s1, s2, s3, s4, s5, s6⟩
    go_simp
    with_reducible rfl
  rotate_left
  · simp only [Act.put, List.setIfInBounds_toArray, List.set_cons_zero, List.set_cons_succ, i64_w, i32_w]
    rfl
  refine pure_ (i := 15) (N := some 35) (v := ?_) (a' := ?_) #[true, true, true, true, true, true, false, true, true, true, true, true, true, true, true, true, true, true, true, false, false, true, true, true, false, false, true, true, true, false, false, false, false] rfl rfl (by kernel_rfl) (fun _ _ _ h => h) (Or.inl ⟨by rfl, ?_⟩) ?_ ?_
  rotate_left
  · intro w'
    go_simp
    with_reducible rfl
  rotate_left
  · simp only [Act.put, List.setIfInBounds_toArray, List.set_cons_zero, List.set_cons_succ, i64_w, i32_w]
    rfl
  refine take_ (i := 19) (N := some 39) (v := ?_) (a' := ?_) #[true, true, true, true, true, true, false, true, true, true, true, true, true, true, true, true, true, true, true, true, false, true, true, true, false, false, true, true, true, false, false, false, false] rfl rfl (by kernel_rfl) (fun _ _ _ h => h) (Or.inl ⟨by rfl, ?_⟩) hHeld ?_ ?_
  rotate_left
  · rintro w' ⟨s0, s1, s2, s3, s4, s5, s6⟩
    go_simp
    with_reducible rfl
  rotate_left
  · simp only [Act.put, List.setIfInBounds_toArray, List.set_cons_zero, List.set_cons_succ, i64_w, i32_w]
    rfl
  refine pure_ (i := 20) (N := some 40) (v := ?_) (a' := ?_) #[true, true, true, true, true, true, false, true, true, true, true, true, true, true, true, true, true, true, true, true, true, true, true, true, false, false, true, true, true, false, false, false, false] rfl rfl (by kernel_rfl) (fun _ _ _ h => h) (Or.inl ⟨by rfl, ?_⟩) ?_ ?_
  rotate_left
  · intro w'
    go_simp
    with_reducible rfl
  rotate_left
  · simp only [Act.put, List.setIfInBounds_toArray, List.set_cons_zero, List.set_cons_succ, i64_w, i32_w]
    rfl
  refine take_ (i := 24) (N := some 44) (v := ?_) (a' := ?_) #[true, true, true, true, true, true, false, true, true, true, true, true, true, true, true, true, true, true, true, true, true, true, true, true, true, false, true, true, true, false, false, false, false] rfl rfl (by kernel_rfl) (fun _ _ _ h => h) (Or.inl ⟨by rfl, ?_⟩) hHeld ?_ ?_
  rotate_left
  · rintro w' ⟨s0, s1, s2, s3, s4, s5, s6⟩
    go_simp
    with_reducible rfl
  rotate_left
  · simp only [Act.put, List.setIfInBounds_toArray, List.set_cons_zero, List.set_cons_succ, i64_w, i32_w]
    rfl
  refine pure_ (i := 25) (N := some 45) (v := ?_) (a' := ?_) #[true, true, true, true, true, true, false, true, true, true, true, true, true, true, true, true, true, true, true, true, true, true, true, true, true, true, true, true, true, false, false, false, false] rfl rfl (by kernel_rfl) (fun _ _ _ h => h) (Or.inl ⟨by rfl, ?_⟩) ?_ ?_
  rotate_left
  · intro w'
    go_simp
    with_reducible rfl
  rotate_left
  · simp only [Act.put, List.setIfInBounds_toArray, List.set_cons_zero, List.set_cons_succ, i64_w, i32_w]
    rfl
  refine take_ (i := 29) (N := some 49) (v := ?_) (a' := ?_) #[true, true, true, true, true, true, false, true, true, true, true, true, true, true, true, true, true, true, true, true, true, true, true, true, true, true, true, true, true, true, false, false, false] rfl rfl (by kernel_rfl) (fun _ _ _ h => h) (Or.inl ⟨by rfl, ?_⟩) hHeld ?_ ?_
  rotate_left
  · rintro w' ⟨s0, s1, s2, s3, s4, s5, s6⟩
    go_simp
    with_reducible rfl
  rotate_left
  · simp only [Act.put, List.setIfInBounds_toArray, List.set_cons_zero, List.set_cons_succ, i64_w, i32_w]
    rfl
  refine pure_ (i := 30) (N := some 50) (v := ?_) (a' := ?_) #[true, true, true, true, true, true, false, true, true, true, true, true, true, true, true, true, true, true, true, true, true, true, true, true, true, true, true, true, true, true, true, false, false] rfl rfl (by kernel_rfl) (fun _ _ _ h => h) (Or.inl ⟨by rfl, ?_⟩) ?_ ?_
  rotate_left
  · intro w'
    go_simp
    with_reducible rfl
  rotate_left
  · simp only [Act.put, List.setIfInBounds_toArray, List.set_cons_zero, List.set_cons_succ, i64_w, i32_w]
    rfl
  refine one_ (i := 6) (N := some 26) #[true, true, true, true, true, true, true, true, true, true, true, true, true, true, true, true, true, true, true, true, true, true, true, true, true, true, true, true, true, true, true, false, false] rfl rfl (by kernel_rfl) (by decide) (fun K hK => ?_)
  refine goes_ Tryd.func32 (by kernel_rfl) rfl #[.agg (TV l)] (by rfl) rfl rfl (by simp only [List.map_toArray, List.map_cons, List.map_nil]; rfl) ?_
  with_reducible refine (net_T l _ hll).mono ?_
  rintro e_ w7 ⟨rfl, hb⟩
  rw [HNET.out]
  refine ⟨_, rfl, ?_⟩
  have T_22 := Aside0.mk (blk_below T_19.out hb)
  have U_23 := Aside0.mk (blk_below U_20.out hb)
  have B24 := Aside0.mk (below_step B21.out hb)
  clear hb T_19 U_20 B21
  refine hK.out _ _ ⟨T_22.out, U_23.out, (blk_cell U_23.out 11).trans g11, (blk_cell U_23.out 39).trans g39, (blk_cell U_23.out 33).trans g33, (blk_cell U_23.out 18).trans g18, (blk_cell U_23.out 46).trans g46⟩ (fun hHeld => ?_)
  clear hK K
  refine norm_ (a' := ?_) ?_ ?_
  rotate_left
  · show Act.put _ (some 26) _ = _
    simp only [Act.put, List.setIfInBounds_toArray, List.set_cons_zero, List.set_cons_succ, i64_w, i32_w]
    rfl
  refine pure_ (i := 31) (N := some 51) (v := ?_) (a' := ?_) #[true, true, true, true, true, true, true, true, true, true, true, true, true, true, true, true, true, true, true, true, true, true, true, true, true, true, true, true, true, true, true, true, false] rfl rfl (by kernel_rfl) (fun _ _ _ h => h) (Or.inl ⟨by rfl, ?_⟩) ?_ ?_
  rotate_left
  · intro w'
    go_simp
    with_reducible rfl
  rotate_left
  · simp only [Act.put, List.setIfInBounds_toArray, List.set_cons_zero, List.set_cons_succ, i64_w, i32_w]
    rfl
  refine pure_ (i := 32) (N := some 52) (v := ?_) (a' := ?_) #[true, true, true, true, true, true, true, true, true, true, true, true, true, true, true, true, true, true, true, true, true, true, true, true, true, true, true, true, true, true, true, true, true] rfl rfl (by kernel_rfl) (fun _ _ _ h => h) (Or.inl ⟨by rfl, ?_⟩) ?_ ?_
  rotate_left
  · intro w'
    go_simp
    with_reducible rfl
  rotate_left
  · simp only [Act.put, List.setIfInBounds_toArray, List.set_cons_zero, List.set_cons_succ, i64_w, i32_w]
    rfl
  refine done_ (by kernel_rfl) ?_
  go_wp2_with fail
  clear g11 g39 g33 g18 g46 HNET
  go_loopg [5, 6] 9 (fun kq v5 v6 w' => ∃ (k : Nat), v5 = .int .i64 (stepsN l k) ∧ v6 = .int .i64 (k : Int) ∧ Aside0 (k + kq = 9) ∧ Aside0 (Below w.heap.size w w') ∧ Aside0 (w'.heap[w2.heap.size]? = some (.cells (TV l) 51 (0, 0))) ∧ Aside0 (w'.heap[w5.heap.size]? = some (.cells (TV l) 56 (0, 0))))
  case atStart => exact ⟨0, rfl, rfl, ⟨rfl⟩, ⟨B24.out⟩, ⟨T_22.out⟩, ⟨U_23.out⟩⟩
  case round =>
    rename World => wo
    clear B24 T_22 U_23
    obtain ⟨k, rfl, rfl, HK, B900, T_900, U_900⟩ := hrel
    by_cases hi : k < 9
    · have e0 : decide ((k : Int) < 9) = true := decide_eq_true (by omega)
      have q1 := Aside0.mk hi
      obtain ⟨ko, rfl⟩ : ∃ m, gk = m + 1 := ⟨gk - 1, by have := HK.out; omega⟩
      have p0 := eq_true (show (0 : Int) ≤ (k : Int) by omega)
      have p1 := eq_true (show (k : Int) < 9 by omega)
      have p2 := eq_true hi
      have wi : wrap64 ((k : Int) + 1) = ((k + 1 : Nat) : Int) := by have := q1.out; unfold wrap64; omega
      have gx := TV_get l (1 + k * 7) (by omega)
      have HSN := Aside0.mk (show stepsN l (k + 1) = wrap64 (stepsN l k + l.getD (1 + k * 7) 0) from rfl)
      generalize l.getD (1 + k * 7) 0 = x at gx HSN
      obtain ⟨sn, esn⟩ : ∃ s, stepsN l k = s := ⟨_, rfl⟩
      rw [esn] at HSN ⊢
      clear esn
      have cU := (blk_cell U_900.out (1 + k * 7)).trans gx
      clear hi gx
      go_wp2_with fail
      go_roundg ko
      case rel => exact ⟨k + 1, by rw [HSN.out], by first | rfl | rw [wi], ⟨by have := HK.out; omega⟩, ⟨B900.out⟩, ⟨T_900.out⟩, ⟨U_900.out⟩⟩
      case measure => exact Nat.lt_succ_self _
    · skip
      have e0 : decide ((k : Int) < 9) = false := decide_eq_false (by omega)
      obtain rfl : k = 9 := by have := HK.out; omega
      clear hi HK
      go_wp2_with (first
        | ((with_reducible refine wpLd 51 (.tmp 3) ?_); refine wpList_load_row_g (by rfl) 51 (.tmp 3) rfl (w2.heap.size) rfl 51 (TV l) (0, 0) _ T_900.out Tryd.underlying51 rfl (info51 _ (by first | assumption | (simp; done))) ?_))
      obtain ⟨xs, exs⟩ : ∃ xs, linesU l 9 = xs := ⟨_, rfl⟩
      have hxl := linesU_len l 9
      have hL1 := lines_T l wo hll hli (HT.out.below B900.out)
      have hL2 := refLines_T l
      rw [exs] at hL1 hL2 hxl
      have HXL := Aside0.mk hxl
      clear exs hxl
      refine (hL1).mono ?_
      rintro e_ w8 ⟨v7, rfl, hR, hb⟩
      have T_901 := Aside0.mk (blk_below T_900.out hb)
      have U_902 := Aside0.mk (blk_below U_900.out hb)
      obtain ⟨AP, cP, rfl, hcP, -⟩ := Kd.R_reads hR
      have P_777 := Aside0.mk (Kd.R_lower hR (B900.out.size))
      clear hR hcP
      have B903 := Aside0.mk (below_step B900.out hb)
      clear hb T_900 U_900 B900
      clear hL1
      go_wp2_with (first
        | ((with_reducible refine wpLd 56 (.tmp 4) ?_); refine wpList_load_row_g (by rfl) 56 (.tmp 4) rfl (w5.heap.size) rfl 56 (TV l) (0, 0) _ U_902.out Tryd.underlying56 rfl (info56 _ (by first | assumption | (simp; done))) ?_))
      refine (hL2 _ hll hli).mono ?_
      rintro e_ w9 ⟨v8, rfl, hR, hb⟩
      have T_904 := Aside0.mk (blk_below T_901.out hb)
      have U_905 := Aside0.mk (blk_below U_902.out hb)
      have P_906 := Aside0.mk (Kd.R_below P_777.out hb)
      obtain ⟨AQ, cQ, rfl, hcQ, -⟩ := Kd.R_reads hR
      have Q_777 := Aside0.mk (Kd.R_lower hR (B903.out.size))
      clear hR hcQ
      have B907 := Aside0.mk (below_step B903.out hb)
      clear hb T_901 U_902 P_777 B903
      clear hL2
      go_wp2_with (first
        | ((with_reducible refine wpLd 51 (.tmp 3) ?_); refine wpList_load_row_g (by rfl) 51 (.tmp 3) rfl (w2.heap.size) rfl 51 (TV l) (0, 0) _ T_904.out Tryd.underlying51 rfl (info51 _ (by first | assumption | (simp; done))) ?_))
      refine (steps_T l _ hll).mono ?_
      rintro e_ w10 ⟨rfl, hb⟩
      have T_908 := Aside0.mk (blk_below T_904.out hb)
      have U_909 := Aside0.mk (blk_below U_905.out hb)
      have P_910 := Aside0.mk (Kd.R_below P_906.out hb)
      have Q_911 := Aside0.mk (Kd.R_below Q_777.out hb)
      have B912 := Aside0.mk (below_step B907.out hb)
      clear hb T_904 U_905 P_906 Q_777 B907
      generalize stepsN l 9 = sn
      go_wp2_with fail
      go_loopg [9] xs.length (fun kq v9 w' => ∃ (i : Nat), v9 = .int .i64 (i : Int) ∧ Aside0 (i + kq = xs.length) ∧ Aside0 (Below w.heap.size w w') ∧ Aside0 (Kd.R Kd.string 9 w' w.heap.size (fun _ => True) (.slice AP xs.length cP) (xs)) ∧ Aside0 (Kd.R Kd.string 9 w' w.heap.size (fun _ => True) (.slice AQ xs.length cQ) (xs)))
      case atStart => exact ⟨0, rfl, ⟨by omega⟩, ⟨B912.out⟩, ⟨P_910.out⟩, ⟨Q_911.out⟩⟩
      case round =>
        clear B912 P_910 Q_911 T_908 U_909
        obtain ⟨i, rfl, HJ, B1900, P_1900, Q_1900⟩ := hrel
        by_cases hj : i < xs.length
        · have f0 : decide ((i : Int) < (xs.length : Int)) = true := decide_eq_true (by omega)
          have q2 := Aside0.mk hj
          obtain ⟨ki, rfl⟩ : ∃ m, gk = m + 1 := ⟨gk - 1, by have := HJ.out; omega⟩
          have r0 := eq_true (show (0 : Int) ≤ (i : Int) by omega)
          have r1 := eq_true (show (i : Int) < (xs.length : Int) by omega)
          have r2 := eq_true hj
          have wj : wrap64 ((i : Int) + 1) = ((i + 1 : Nat) : Int) := by have := q2.out; have := HXL.out; unfold wrap64; omega
          obtain ⟨pP, e_, -⟩ := at_s P_1900.out rfl i hj
          subst e_
          obtain ⟨pQ, e_, -⟩ := at_s Q_1900.out rfl i hj
          subst e_
          obtain ⟨x, hx⟩ : ∃ x, xs.getD i ⟨#[]⟩ = x := ⟨_, rfl⟩
          have cP_ := at_cell (Kd.R_drew P_1900.out) rfl i hj x hx
          have cQ_ := at_cell (Kd.R_drew Q_1900.out) rfl i hj x hx
          have CP := Aside0.mk cP_
          have CQ := Aside0.mk cQ_
          clear hj cP_ cQ_ hx
          go_wp2_with fail
          refine start_ (n := 9) (S := fun w' => w'.cell? (pP.add i) = some (.string x) ∧ w'.cell? (pQ.add i) = some (.string x)) (ds := []) #[false, false, false, false, false, false, false, false, false] (by kernel_rfl) rfl rfl ⟨CP.out, CQ.out⟩ (fun hHeld => ?_)
          refine pure_ (i := 0) (N := some 85) (v := ?_) (a' := ?_) #[true, false, false, false, false, false, false, false, false] rfl rfl (by kernel_rfl) (fun _ _ _ h => h) (Or.inl ⟨by rfl, ?_⟩) ?_ ?_
          rotate_left
          · intro w'
            go_simp
            with_reducible rfl
          rotate_left
          · simp only [Act.put, List.setIfInBounds_toArray, List.set_cons_zero, List.set_cons_succ, i64_w, i32_w]
            rfl
          refine pure_ (i := 1) (N := some 86) (v := ?_) (a' := ?_) #[true, true, false, false, false, false, false, false, false] rfl rfl (by kernel_rfl) (fun _ _ _ h => h) (Or.inl ⟨by rfl, ?_⟩) ?_ ?_
          rotate_left
          · intro w'
            go_simp
            with_reducible rfl
          rotate_left
          · simp only [Act.put, List.setIfInBounds_toArray, List.set_cons_zero, List.set_cons_succ, i64_w, i32_w]
            rfl
          refine pure_ (i := 2) (N := some 87) (v := ?_) (a' := ?_) #[true, true, true, false, false, false, false, false, false] rfl rfl (by kernel_rfl) (fun _ _ _ h => h) (Or.inl ⟨by rfl, ?_⟩) ?_ ?_
          rotate_left
          · intro w'
            go_simp
            with_reducible rfl
          rotate_left
          · simp only [Act.put, List.setIfInBounds_toArray, List.set_cons_zero, List.set_cons_succ, i64_w, i32_w]
            rfl
          refine pure_ (i := 4) (N := some 89) (v := ?_) (a' := ?_) #[true, true, true, false, true, false, false, false, false] rfl rfl (by kernel_rfl) (fun _ _ _ h => h) (Or.inl ⟨by rfl, ?_⟩) ?_ ?_
          rotate_left
          · intro w'
            go_simp
            with_reducible rfl
          rotate_left
          · simp only [Act.put, List.setIfInBounds_toArray, List.set_cons_zero, List.set_cons_succ, i64_w, i32_w]
            rfl
          refine pure_ (i := 5) (N := some 90) (v := ?_) (a' := ?_) #[true, true, true, false, true, true, false, false, false] rfl rfl (by kernel_rfl) (fun _ _ _ h => h) (Or.inl ⟨by rfl, ?_⟩) ?_ ?_
          rotate_left
          · intro w'
            go_simp
            with_reducible rfl
          rotate_left
          · simp only [Act.put, List.setIfInBounds_toArray, List.set_cons_zero, List.set_cons_succ, i64_w, i32_w]
            rfl
          refine pure_ (i := 6) (N := some 91) (v := ?_) (a' := ?_) #[true, true, true, false, true, true, true, false, false] rfl rfl (by kernel_rfl) (fun _ _ _ h => h) (Or.inl ⟨by rfl, ?_⟩) ?_ ?_
          rotate_left
          · intro w'
            go_simp
            with_reducible rfl
          rotate_left
          · simp only [Act.put, List.setIfInBounds_toArray, List.set_cons_zero, List.set_cons_succ, i64_w, i32_w]
            rfl
          refine take_ (i := 3) (N := some 88) (v := ?_) (a' := ?_) #[true, true, true, true, true, true, true, false, false] rfl rfl (by kernel_rfl) (fun _ _ _ h => h) (Or.inl ⟨by rfl, ?_⟩) hHeld ?_ ?_
          rotate_left
          · rintro w' ⟨s0, s1⟩
            go_simp
            with_reducible rfl
          rotate_left
          · simp only [Act.put, List.setIfInBounds_toArray, List.set_cons_zero, List.set_cons_succ, i64_w, i32_w]
            rfl
          refine take_ (i := 7) (N := some 92) (v := ?_) (a' := ?_) #[true, true, true, true, true, true, true, true, false] rfl rfl (by kernel_rfl) (fun _ _ _ h => h) (Or.inl ⟨by rfl, ?_⟩) hHeld ?_ ?_
          rotate_left
          · rintro w' ⟨s0, s1⟩
            go_simp
            with_reducible rfl
          rotate_left
          · simp only [Act.put, List.setIfInBounds_toArray, List.set_cons_zero, List.set_cons_succ, i64_w, i32_w]
            rfl
          refine pure_ (i := 8) (N := some 93) (v := ?_) (a' := ?_) #[true, true, true, true, true, true, true, true, true] rfl rfl (by kernel_rfl) (fun _ _ _ h => h) (Or.inl ⟨by rfl, ?_⟩) ?_ ?_
          rotate_left
          · intro w'
            go_simp
            with_reducible rfl
          rotate_left
          · simp only [Act.put, List.setIfInBounds_toArray, List.set_cons_zero, List.set_cons_succ, i64_w, i32_w]
            rfl
          refine done_ (by kernel_rfl) ?_
          go_wp2_with fail
          go_roundg ki
          case rel => exact ⟨i + 1, by first | rfl | rw [wj], ⟨by have := HJ.out; omega⟩, ⟨below_drew B1900.out⟩, ⟨Kd.R_drew P_1900.out⟩, ⟨Kd.R_drew Q_1900.out⟩⟩
          case measure => exact Nat.lt_succ_self _
        · have f0 : decide ((i : Int) < (xs.length : Int)) = false := decide_eq_false (by omega)
          have f1 := eq_false hj
          go_wp2_with fail
          go_ret
          exact ⟨rfl, B1900.out⟩
end Go.Proofs.YtcncndhoeiaoeaaDoor.PTallyExact

