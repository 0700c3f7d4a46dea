import Derived.Test.YtinmmnljicmppaaDoorVTaleC
/-
tale.Conf.
-/
namespace Go.Proofs.YtinmmnljicmppaaDoor.PTaleApart
open Go Go.RowKit Go.Proofs.YtinmmnljicmppaaDoorW.PrintWords Go.Proofs.YtinmmnljicmppaaDoorW.PrintLast Go.Proofs.YtinmmnljicmppaaDoorW.PrintMore Go.Proofs.YtinmmnljicmppaaDoor.Str
attribute [local go_sem] max2_int min2_int max_two min_two max_three min_three max_four min_four
set_option linter.unusedVariables false
set_option linter.unusedSimpArgs false
def itB (n : Int) : ByteArray := ⟨(Lib.itoa n).toArray⟩
def I64 (x : Int) : Prop := -9223372036854775808 ≤ x ∧ x ≤ 9223372036854775807
theorem itoaG_eq {x : Int} (h : I64 x) : itoaG.f x = some (itB x) := by
 unfold itoaG.f
 unfold I64 at h
 rw [if_pos (U.wf_i64.2 (by omega))]; rfl
theorem itoa_len (n : Int) (h : I64 n) : (Lib.itoa n).length ≤ 21 := by
 unfold Lib.itoa
 unfold I64 at h
 split
 ·have := dec_len20 n.natAbs (by omega); rw [List.length_cons]; omega
 ·have := dec_len20 n.toNat (by omega); omega
theorem itB_len (n : Int) (h : I64 n) : (itB n).data.toList.length ≤ 21 := itoa_len n h
def kinds4 : List ByteArray := [(⟨#[]⟩ : ByteArray), (⟨#[108, 105, 115, 116]⟩ : ByteArray), (⟨#[104, 97, 115, 104]⟩ : ByteArray), (⟨#[115, 107, 105, 112]⟩ : ByteArray)]
def kindW (n : Nat) : ByteArray := kinds4.getD n ⟨#[]⟩
theorem kinds_eq : tale_kinds.f = some kinds4 := rfl
theorem kindW_len (n : Nat) : (kindW n).data.toList.length ≤ 4 := by
 unfold kindW kinds4
 rcases n with _ | _ | _ | _ | n <;> first | decide | (simp; done)
def joinB (l : List ByteArray) : ByteArray := ⟨(Lib.join (l.map (·.data.toList)) [32]).toArray⟩
theorem join_len (s : List UInt8) : ∀ l : List (List UInt8), (Lib.join l s).length ≤ (l.map (·.length)).sum + l.length * s.length
 | [] => by simp [Lib.join_nil]
 | [x] => by rw [Lib.join_one]; simp
 | x :: y :: r => by
  have ih := join_len s (y :: r)
  have e : Lib.join (x :: y :: r) s = x ++ s ++ Lib.join (y :: r) s := by
   rw [Lib.join_cons, Lib.join_cons]; simp [Lib.joinTail]
  rw [e]
  simp only [List.length_append, List.map_cons, List.sum_cons, List.length_cons] at ih ⊢
  rw [Nat.succ_mul]; omega
theorem join_f {l : List ByteArray} (h : l.length ≤ 1000000) (hs : ∀ x ∈ l, x.data.toList.length ≤ 1000000) : tale_join.f l = some (joinB l) := by
 unfold tale_join.f
 have h1 := join_len [32] (l.map (·.data.toList))
 have h2 : ∀ l : List ByteArray, (∀ x ∈ l, x.data.toList.length ≤ 1000000) → ((l.map (·.data.toList)).map (·.length)).sum ≤ l.length * 1000000 := by
  intro l
  induction l with
  | nil => intro _; simp
  | cons x r ih =>
   intro hs
   have h3 := ih (fun y hy => hs y (by simp [hy]))
   have h4 := hs x (by simp)
   simp only [List.map_cons, List.sum_cons, List.length_cons, Nat.succ_mul] at h3 ⊢
   omega
 have h5 := h2 l hs
 have h6 : l.length * 1000000 ≤ 1000000 * 1000000 := Nat.mul_le_mul_right _ h
 rw [if_pos ⟨by omega, by simp only [List.length_map, List.length_cons, List.length_nil] at h1; omega⟩]
 rfl
def confL (n : Nat) (sl bu he li : Int) : List ByteArray := if n = 2 then [kindW n, itB sl, itB bu, itB li] else if n = 3 then [kindW n, itB sl, itB he, itB li] else [kindW n, itB sl, itB li]
theorem at_cell {W : World} {B c m : Nat} {p : Addr} {ok : Nat → Prop} {xs : List ByteArray} (h : Kd.R Kd.string 9 W B ok (.slice (some p) m c) xs) (hm : m = xs.length) (i : Nat) (h1 : i < m) : W.cell? (p.add i) = some (.string (xs.getD i ⟨#[]⟩)) := by
 subst hm
 have hC := (Kd.R_reads' h).2.2
 obtain ⟨ad, c, e, _, hK, hc0⟩ := Kd.C_get hC ⟨#[]⟩ (i : Int) (by omega) (by omega)
 have hK2 : c = [.string (xs.getD i ⟨#[]⟩)] := hK
 subst hK2
 injection e with e
 subst e
 have h2 : W.cell? (p.add (i * 1 + 0)) = some (.string (xs.getD i ⟨#[]⟩)) := hc0 0 _ rfl
 rw [Nat.mul_one, Nat.add_zero] at h2
 exact h2
set_option maxHeartbeats 64000000 in
set_option maxRecDepth 100000 in
theorem conf_T (k : Nat) (kd sl bu he li e : Int) (w : World) (hck : conf_Check.f k kd sl bu he li = some e) (hkd : e = 0 → ∃ n : Nat, kd = (n : Int) ∧ n < 4) (hsl : I64 sl) (hbu : I64 bu) (hhe : I64 he) (hli : I64 li) (ht : WT w) :
  Calls Tryd.prog 8 #[.agg #[.int .i64 kd, .int .i64 sl, .int .i64 bu, .int .i64 he, .int .i64 li]] w fun e' w' => e' = .returned (.tuple #[.string (if e = 0 then joinB (confL kd.toNat sl bu he li) else ⟨#[]⟩), .int .i64 e]) ∧ Below w.heap.size w w' := by
 have hu31 := Tryd.underlying31
 have hu55 := Tryd.underlying55
 have HT := Aside0.mk ht
 have HSL := Aside0.mk hsl
 have HBU := Aside0.mk hbu
 have HHE := Aside0.mk hhe
 have HLI := Aside0.mk hli
 clear ht hsl hbu hhe hli
 obtain ⟨rs, hrs⟩ : ∃ rs, (if e = 0 then joinB (confL kd.toNat sl bu he li) else ⟨#[]⟩) = rs := ⟨_, rfl⟩
 rw [hrs]
 have L_C := Aside0.mk (show w.heap.size ≤ w.heap.size from Nat.le_refl _)
 have C_1 := Aside0.mk (blk_new (w) (.cells (#[.int .i64 kd, .int .i64 sl, .int .i64 bu, .int .i64 he, .int .i64 li]) 31))
 have B2 := Aside0.mk (below_alloc (Below.refl w.heap.size w) (.cells (#[.int .i64 kd, .int .i64 sl, .int .i64 bu, .int .i64 he, .int .i64 li]) 31))
 go_enter Tryd.func8, Tryd.ntmps8
 go_wp2_with (first
  | ((with_reducible refine wpLd 31 (.tmp 1) ?_); refine wpList_load_row_g (by rfl) 31 (.tmp 1) rfl (w.heap.size) rfl 31 (#[.int .i64 kd, .int .i64 sl, .int .i64 bu, .int .i64 he, .int .i64 li]) (0, 0) _ C_1.out Tryd.underlying31 rfl (by kernel_rfl) ?_))
 refine (conf_Check.calls k kd sl bu he li e _ hck).mono ?_
 rintro e_ w1 ⟨rfl, hb⟩
 have C_3 := Aside0.mk (blk_below C_1.out hb)
 have B4 := Aside0.mk (below_step B2.out hb)
 clear hb C_1 B2
 by_cases he0 : ¬ e = 0
 ·rw [if_neg he0] at hrs
  have HRS := Aside0.mk hrs
  clear hrs
  have e1 := eq_false he0
  have e2 : (e == 0) = false := beq_eq_false_iff_ne.mpr he0
  have e3 : (e != 0) = true := by simpa using he0
  have e4 : decide (e = 0) = false := decide_eq_false he0
  clear hkd hck he0
  go_wp2_with fail
  go_ret2
  exact ⟨by rw [← HRS.out]; rfl, B4.out⟩
 replace he0 := Classical.not_not.1 he0
 subst he0
 rw [if_pos rfl] at hrs
 obtain ⟨n, rfl, hn⟩ := hkd rfl
 rw [Int.toNat_natCast] at hrs
 have HRS := Aside0.mk hrs
 clear hrs
 have QN := Aside0.mk hn
 have p0 := eq_true (show (0 : Int) ≤ (n : Int) by omega)
 have p1 := eq_true (show (n : Int) < 4 by omega)
 have p2 := eq_true hn
 clear hn hkd hck
 go_wp2_with fail
 refine start_ (n := 14) (S := fun w' => w'.cell? ⟨w.heap.size, 0, none⟩ = some (.int .i64 (n : Int)) ∧ w'.cell? ⟨w.heap.size, 1, none⟩ = some (.int .i64 sl) ∧ w'.cell? ⟨w.heap.size, 4, none⟩ = some (.int .i64 li)) (ds := []) #[false, false, false, false, false, false, false, false, false, false, false, false, false, false] (by kernel_rfl) rfl rfl ⟨(blk_cell (blk_drew C_3.out) 0).trans rfl, (blk_cell (blk_drew C_3.out) 1).trans rfl, (blk_cell (blk_drew C_3.out) 4).trans rfl⟩ (fun hHeld => ?_)
 refine pure_ (i := 1) (N := some 14) (v := ?_) (a' := ?_) #[false, true, false, false, false, false, false, false, false, false, false, false, false, false] rfl rfl (by kernel_rfl) (fun _ _ _ h => h) (Or.inl ⟨by rfl, ?_⟩) ?_ ?_
 rotate_left
 ·intro w'
  go_simp
  with_reducible rfl
 rotate_left
 ·simp only [Act.put, List.setIfInBounds_toArray, List.set_cons_zero, List.set_cons_succ, i64_w, i32_w]
  rfl
 refine pure_ (i := 5) (N := some 18) (v := ?_) (a' := ?_) #[false, true, false, false, false, true, false, false, false, false, false, false, false, false] rfl rfl (by kernel_rfl) (fun _ _ _ h => h) (Or.inl ⟨by rfl, ?_⟩) ?_ ?_
 rotate_left
 ·intro w'
  go_simp
  with_reducible rfl
 rotate_left
 ·simp only [Act.put, List.setIfInBounds_toArray, List.set_cons_zero, List.set_cons_succ, i64_w, i32_w]
  rfl
 refine pure_ (i := 8) (N := some 21) (v := ?_) (a' := ?_) #[false, true, false, false, false, true, false, false, true, false, false, false, false, false] rfl rfl (by kernel_rfl) (fun _ _ _ h => h) (Or.inl ⟨by rfl, ?_⟩) ?_ ?_
 rotate_left
 ·intro w'
  go_simp
  with_reducible rfl
 rotate_left
 ·simp only [Act.put, List.setIfInBounds_toArray, List.set_cons_zero, List.set_cons_succ, i64_w, i32_w]
  rfl
 refine take_ (i := 2) (N := some 15) (v := ?_) (a' := ?_) #[false, true, true, false, false, true, false, false, true, false, false, false, false, false] rfl rfl (by kernel_rfl) (fun _ _ _ h => h) (Or.inl ⟨by rfl, ?_⟩) hHeld ?_ ?_
 rotate_left
 ·rintro w' ⟨s0, s1, s2⟩
  go_simp
  with_reducible rfl
 rotate_left
 ·simp only [Act.put, List.setIfInBounds_toArray, List.set_cons_zero, List.set_cons_succ, i64_w, i32_w]
  rfl
 refine take_ (i := 6) (N := some 19) (v := ?_) (a' := ?_) #[false, true, true, false, false, true, true, false, true, false, false, false, false, false] rfl rfl (by kernel_rfl) (fun _ _ _ h => h) (Or.inl ⟨by rfl, ?_⟩) hHeld ?_ ?_
 rotate_left
 ·rintro w' ⟨s0, s1, s2⟩
  go_simp
  with_reducible rfl
 rotate_left
 ·simp only [Act.put, List.setIfInBounds_toArray, List.set_cons_zero, List.set_cons_succ, i64_w, i32_w]
  rfl
 refine take_ (i := 9) (N := some 22) (v := ?_) (a' := ?_) #[false, true, true, false, false, true, true, false, true, true, false, false, false, false] rfl rfl (by kernel_rfl) (fun _ _ _ h => h) (Or.inl ⟨by rfl, ?_⟩) hHeld ?_ ?_
 rotate_left
 ·rintro w' ⟨s0, s1, s2⟩
  go_simp
  with_reducible rfl
 rotate_left
 ·simp only [Act.put, List.setIfInBounds_toArray, List.set_cons_zero, List.set_cons_succ, i64_w, i32_w]
  rfl
 refine one_ (i := 0) (N := some 13) #[true, true, true, false, false, true, true, false, true, true, false, false, false, false] rfl rfl (by kernel_rfl) (by decide) (fun K hK => ?_)
 refine goes_ Tryd.func20 (by kernel_rfl) rfl #[] (by rfl) rfl rfl (by simp only [List.map_toArray, List.map_nil]) ?_
 with_reducible refine (tale_kinds.calls _ _ kinds_eq).mono ?_
 rintro e_ w6 ⟨v0, rfl, hR, hb⟩
 obtain ⟨AK, cK, eK, -, -⟩ := Kd.R_reads hR
 have eK' : v0 = .slice AK 4 cK := eK
 subst eK'
 clear eK
 obtain ⟨pK, rfl⟩ : ∃ p, AK = some p := by obtain ⟨ad, _, e_, _⟩ := Kd.C_get (Kd.R_reads' hR).2.2 ⟨#[]⟩ 0 (by omega) (by decide); exact ⟨ad, e_⟩
 refine ⟨_, rfl, ?_⟩
 have C_5 := Aside0.mk (blk_below (blk_drew C_3.out) hb)
 have K_777 := Aside0.mk (Kd.R_lower hR ((below_drew B4.out)).size)
 clear hR
 have B6 := Aside0.mk (below_step (below_drew B4.out) hb)
 clear hb C_3 B4
 refine hK.out _ _ ⟨(blk_cell C_5.out 0).trans rfl, (blk_cell C_5.out 1).trans rfl, (blk_cell C_5.out 4).trans rfl⟩ (fun hHeld => ?_)
 clear hK K
 refine last_more (S2 := fun w' => w'.cell? ⟨w.heap.size, 0, none⟩ = some (.int .i64 (n : Int)) ∧ w'.cell? ⟨w.heap.size, 1, none⟩ = some (.int .i64 sl) ∧ w'.cell? ⟨w.heap.size, 4, none⟩ = some (.int .i64 li) ∧ w'.cell? (pK.add n) = some (.string (kindW n))) (fun _ h => ⟨h.1, h.2.1, h.2.2.1⟩) ⟨hHeld.1, hHeld.2.1, hHeld.2.2, at_cell K_777.out rfl n QN.out⟩ (fun hHeld => ?_)
 refine norm_ (a' := ?_) ?_ ?_
 rotate_left
 ·show Act.put _ (some 13) _ = _
  simp only [Act.put, List.setIfInBounds_toArray, List.set_cons_zero, List.set_cons_succ, i64_w, i32_w]
  rfl
 refine pure_ (i := 3) (N := some 16) (v := ?_) (a' := ?_) #[true, true, true, true, false, true, true, false, true, true, false, false, false, false] rfl rfl (by kernel_rfl) (fun _ _ _ h => h) (Or.inl ⟨by rfl, ?_⟩) ?_ ?_
 rotate_left
 ·intro w'
  go_simp
  with_reducible rfl
 rotate_left
 ·simp only [Act.put, List.setIfInBounds_toArray, List.set_cons_zero, List.set_cons_succ, i64_w, i32_w]
  rfl
 refine take_ (i := 4) (N := some 17) (v := ?_) (a' := ?_) #[true, true, true, true, true, true, true, false, true, true, false, false, false, false] rfl rfl (by kernel_rfl) (fun _ _ _ h => h) (Or.inl ⟨by rfl, ?_⟩) hHeld ?_ ?_
 rotate_left
 ·rintro w' ⟨s0, s1, s2, s3⟩
  go_simp
  with_reducible rfl
 rotate_left
 ·simp only [Act.put, List.setIfInBounds_toArray, List.set_cons_zero, List.set_cons_succ, i64_w, i32_w]
  rfl
 refine one_ (i := 7) (N := some 20) #[true, true, true, true, true, true, true, true, true, true, false, false, false, false] rfl rfl (by kernel_rfl) (by decide) (fun K hK => ?_)
 refine goes_ Tryd.func17 (by kernel_rfl) rfl #[.int .i64 sl] (by rfl) rfl rfl (by simp only [List.map_toArray, List.map_cons, List.map_nil]; rfl) ?_
 with_reducible refine (itoaG.calls sl (itB sl) _ (itoaG_eq HSL.out) HT.out B6.out).mono ?_
 rintro e_ w7 ⟨rfl, hb⟩
 refine ⟨_, rfl, ?_⟩
 have C_7 := Aside0.mk (blk_below C_5.out hb)
 have K_8 := Aside0.mk (Kd.R_below K_777.out hb)
 have B9 := Aside0.mk (below_step B6.out hb)
 clear hb C_5 K_777 B6
 refine hK.out _ _ ⟨(blk_cell C_7.out 0).trans rfl, (blk_cell C_7.out 1).trans rfl, (blk_cell C_7.out 4).trans rfl, at_cell K_8.out rfl n QN.out⟩ (fun hHeld => ?_)
 clear hK K
 refine norm_ (a' := ?_) ?_ ?_
 rotate_left
 ·show Act.put _ (some 20) _ = _
  simp only [Act.put, List.setIfInBounds_toArray, List.set_cons_zero, List.set_cons_succ, i64_w, i32_w]
  rfl
 refine one_ (i := 10) (N := some 23) #[true, true, true, true, true, true, true, true, true, true, true, false, false, false] rfl rfl (by kernel_rfl) (by decide) (fun K hK => ?_)
 refine goes_ Tryd.func17 (by kernel_rfl) rfl #[.int .i64 li] (by rfl) rfl rfl (by simp only [List.map_toArray, List.map_cons, List.map_nil]; rfl) ?_
 with_reducible refine (itoaG.calls li (itB li) _ (itoaG_eq HLI.out) HT.out B9.out).mono ?_
 rintro e_ w8 ⟨rfl, hb⟩
 refine ⟨_, rfl, ?_⟩
 have C_10 := Aside0.mk (blk_below C_7.out hb)
 have K_11 := Aside0.mk (Kd.R_below K_8.out hb)
 have B12 := Aside0.mk (below_step B9.out hb)
 clear hb C_7 K_8 B9
 refine hK.out _ _ ⟨(blk_cell C_10.out 0).trans rfl, (blk_cell C_10.out 1).trans rfl, (blk_cell C_10.out 4).trans rfl, at_cell K_11.out rfl n QN.out⟩ (fun hHeld => ?_)
 clear hK K
 refine norm_ (a' := ?_) ?_ ?_
 rotate_left
 ·show Act.put _ (some 23) _ = _
  simp only [Act.put, List.setIfInBounds_toArray, List.set_cons_zero, List.set_cons_succ, i64_w, i32_w]
  rfl
 refine pure_ (i := 11) (N := some 5) (v := ?_) (a' := ?_) #[true, true, true, true, true, true, true, true, true, true, true, true, false, false] rfl rfl (by kernel_rfl) (fun _ _ _ h => h) (Or.inl ⟨by rfl, ?_⟩) ?_ ?_
 rotate_left
 ·intro w'
  go_simp
  with_reducible rfl
 rotate_left
 ·simp only [Act.put, List.setIfInBounds_toArray, List.set_cons_zero, List.set_cons_succ, i64_w, i32_w]
  rfl
 refine pure_ (i := 12) (N := some 6) (v := ?_) (a' := ?_) #[true, true, true, true, true, true, true, true, true, true, true, true, true, false] rfl rfl (by kernel_rfl) (fun _ _ _ h => h) (Or.inl ⟨by rfl, ?_⟩) ?_ ?_
 rotate_left
 ·intro w'
  go_simp
  with_reducible rfl
 rotate_left
 ·simp only [Act.put, List.setIfInBounds_toArray, List.set_cons_zero, List.set_cons_succ, i64_w, i32_w]
  rfl
 refine pure_ (i := 13) (N := some 7) (v := ?_) (a' := ?_) #[true, true, true, true, true, true, true, true, true, true, true, true, true, true] rfl rfl (by kernel_rfl) (fun _ _ _ h => h) (Or.inl ⟨by rfl, ?_⟩) ?_ ?_
 rotate_left
 ·intro w'
  go_simp
  with_reducible rfl
 rotate_left
 ·simp only [Act.put, List.setIfInBounds_toArray, List.set_cons_zero, List.set_cons_succ, i64_w, i32_w]
  rfl
 refine done_ (by kernel_rfl) ?_
 clear K_11
 have c0 := (blk_cell C_10.out 0).trans (show (#[.int .i64 (n : Int), .int .i64 sl, .int .i64 bu, .int .i64 he, .int .i64 li] : Array Value)[0]? = some _ from rfl)
 have c2 := (blk_cell C_10.out 2).trans (show (#[.int .i64 (n : Int), .int .i64 sl, .int .i64 bu, .int .i64 he, .int .i64 li] : Array Value)[2]? = some _ from rfl)
 have c3 := (blk_cell C_10.out 3).trans (show (#[.int .i64 (n : Int), .int .i64 sl, .int .i64 bu, .int .i64 he, .int .i64 li] : Array Value)[3]? = some _ from rfl)
 by_cases h2 : n = 2
 ·subst h2
  have KN := Aside0.mk (show kindW 2 = kindW 2 from rfl)
  go_wp2_with fail
  clear c0 c2 c3
  refine (itoaG.calls _ _ _ (itoaG_eq HBU.out) HT.out B12.out).mono ?_
  rintro e_ w9 ⟨rfl, hb⟩
  have C_13 := Aside0.mk (blk_below C_10.out hb)
  have B14 := Aside0.mk (below_step B12.out hb)
  clear hb C_10 B12
  go_wp2_with (first
   | ((with_reducible refine gate_dst (N := 34) rfl ?_); refine Kd.R_lit Kd.string (w0 := w) w.heap.size 9 ?hg (N := 34) ?hd (xs := [kindW 2, itB sl, itB bu, itB li]) (inner := [.string (kindW 2), .string (itB sl), .string (itB bu), .string (itB li)]) (ok := fun _ => True) (okp := fun _ => True) ?hr ?hp (fun _ hk => hk) trivial B14.out B14.out.size (by simp) ?_; (case hd => rfl); (case hg => rfl); (case hr => first | (go_simp; done) | (go_simp; rfl)); (case hp => exact (Reps.one (show Kd.M Kd.string _ _ _ (kindW 2) [.string (kindW 2)] from rfl) (Reps.one (show Kd.M Kd.string _ _ _ (itB sl) [.string (itB sl)] from rfl) (Reps.one (show Kd.M Kd.string _ _ _ (itB bu) [.string (itB bu)] from rfl) (Reps.one (show Kd.M Kd.string _ _ _ (itB li) [.string (itB li)] from rfl) (Reps.none _ _)))))); intro vW w10 ho hb hg_ hnew_; have W_900 := Aside0.mk ho; have B900 := Aside0.mk hb; clear ho hb hg_ hnew_))
  obtain ⟨AW, cW, eW, hcW, hCW⟩ := Kd.R_reads W_900.out
  have eW' : vW = .slice AW 4 cW := eW
  subst eW'
  clear eW
  have hj := tale_join.calls AW cW ([kindW 2, itB sl, itB bu, itB li]) _ w10 hCW hcW (join_f (by simp) (by
   intro x hx
   simp only [List.mem_cons, List.not_mem_nil, or_false] at hx
   have := kindW_len 2
   have := itB_len sl HSL.out
   have := itB_len bu HBU.out
   have := itB_len he HHE.out
   have := itB_len li HLI.out
   rcases hx with rfl | rfl | rfl | rfl <;> omega))
  clear hCW hcW W_900
  refine hj.mono ?_
  rintro e_ w11 ⟨rfl, hb⟩
  have B901 := Aside0.mk (below_step B900.out hb)
  clear hb hj B900
  go_wp2_with fail
  go_ret2
  exact ⟨by rw [← HRS.out]; rfl, B901.out⟩
 by_cases h3 : n = 3
 ·subst h3
  clear h2
  go_wp2_with fail
  clear c0 c2 c3
  refine (itoaG.calls _ _ _ (itoaG_eq HHE.out) HT.out B12.out).mono ?_
  rintro e_ w9 ⟨rfl, hb⟩
  have C_13 := Aside0.mk (blk_below C_10.out hb)
  have B14 := Aside0.mk (below_step B12.out hb)
  clear hb C_10 B12
  go_wp2_with (first
   | ((with_reducible refine gate_dst (N := 44) rfl ?_); refine Kd.R_lit Kd.string (w0 := w) w.heap.size 9 ?hg (N := 44) ?hd (xs := [kindW 3, itB sl, itB he, itB li]) (inner := [.string (kindW 3), .string (itB sl), .string (itB he), .string (itB li)]) (ok := fun _ => True) (okp := fun _ => True) ?hr ?hp (fun _ hk => hk) trivial B14.out B14.out.size (by simp) ?_; (case hd => rfl); (case hg => rfl); (case hr => first | (go_simp; done) | (go_simp; rfl)); (case hp => exact (Reps.one (show Kd.M Kd.string _ _ _ (kindW 3) [.string (kindW 3)] from rfl) (Reps.one (show Kd.M Kd.string _ _ _ (itB sl) [.string (itB sl)] from rfl) (Reps.one (show Kd.M Kd.string _ _ _ (itB he) [.string (itB he)] from rfl) (Reps.one (show Kd.M Kd.string _ _ _ (itB li) [.string (itB li)] from rfl) (Reps.none _ _)))))); intro vW w10 ho hb hg_ hnew_; have W_900 := Aside0.mk ho; have B900 := Aside0.mk hb; clear ho hb hg_ hnew_))
  obtain ⟨AW, cW, eW, hcW, hCW⟩ := Kd.R_reads W_900.out
  have eW' : vW = .slice AW 4 cW := eW
  subst eW'
  clear eW
  have hj := tale_join.calls AW cW ([kindW 3, itB sl, itB he, itB li]) _ w10 hCW hcW (join_f (by simp) (by
   intro x hx
   simp only [List.mem_cons, List.not_mem_nil, or_false] at hx
   have := kindW_len 3
   have := itB_len sl HSL.out
   have := itB_len bu HBU.out
   have := itB_len he HHE.out
   have := itB_len li HLI.out
   rcases hx with rfl | rfl | rfl | rfl <;> omega))
  clear hCW hcW W_900
  refine hj.mono ?_
  rintro e_ w11 ⟨rfl, hb⟩
  have B901 := Aside0.mk (below_step B900.out hb)
  clear hb hj B900
  go_wp2_with fail
  go_ret2
  exact ⟨by rw [← HRS.out]; rfl, B901.out⟩
 have z2 : ((n : Int) == 2) = false := beq_eq_false_iff_ne.mpr (by omega)
 have z3 : ((n : Int) == 3) = false := beq_eq_false_iff_ne.mpr (by omega)
 have y2 := eq_false (show ¬ (n : Int) = 2 by omega)
 have y3 := eq_false (show ¬ (n : Int) = 3 by omega)
 have HRS2 := HRS.out
 unfold confL at HRS2
 rw [if_neg h2, if_neg h3] at HRS2
 clear HRS
 have HRS := Aside0.mk HRS2
 clear HRS2 h2 h3
 go_wp2_with (first
  | ((with_reducible refine gate_dst (N := 49) rfl ?_); refine Kd.R_lit Kd.string (w0 := w) w.heap.size 9 ?hg (N := 49) ?hd (xs := [kindW n, itB sl, itB li]) (inner := [.string (kindW n), .string (itB sl), .string (itB li)]) (ok := fun _ => True) (okp := fun _ => True) ?hr ?hp (fun _ hk => hk) trivial B12.out B12.out.size (by simp) ?_; (case hd => rfl); (case hg => rfl); (case hr => first | (go_simp; done) | (go_simp; rfl)); (case hp => exact (Reps.one (show Kd.M Kd.string _ _ _ (kindW n) [.string (kindW n)] from rfl) (Reps.one (show Kd.M Kd.string _ _ _ (itB sl) [.string (itB sl)] from rfl) (Reps.one (show Kd.M Kd.string _ _ _ (itB li) [.string (itB li)] from rfl) (Reps.none _ _))))); intro vW w10 ho hb hg_ hnew_; have W_900 := Aside0.mk ho; have B900 := Aside0.mk hb; clear ho hb hg_ hnew_))
 obtain ⟨AW, cW, eW, hcW, hCW⟩ := Kd.R_reads W_900.out
 have eW' : vW = .slice AW 3 cW := eW
 subst eW'
 clear eW
 have hj := tale_join.calls AW cW ([kindW n, itB sl, itB li]) _ w10 hCW hcW (join_f (by simp) (by
  intro x hx
  simp only [List.mem_cons, List.not_mem_nil, or_false] at hx
  have := kindW_len n
  have := itB_len sl HSL.out
  have := itB_len bu HBU.out
  have := itB_len he HHE.out
  have := itB_len li HLI.out
  rcases hx with rfl | rfl | rfl <;> omega))
 clear hCW hcW W_900
 refine hj.mono ?_
 rintro e_ w11 ⟨rfl, hb⟩
 have B901 := Aside0.mk (below_step B900.out hb)
 clear hb hj B900
 go_wp2_with fail
 go_ret2
 exact ⟨by rw [← HRS.out]; rfl, B901.out⟩
end Go.Proofs.YtinmmnljicmppaaDoor.PTaleApart
