/-
The law SpecExact.
-/
import Derived.Test.YtcphmelmieedfabSpecN
namespace Go.Proofs.Ytcphmelmieedfab.PSpecExact
open Go Go.RowKit Go.Proofs.YtcphmelmieedfabW.PrintWords Go.Proofs.YtcphmelmieedfabW.PrintLast Go.Proofs.YtcphmelmieedfabW.PrintMore
attribute [local go_sem] max2_int min2_int max_two min_two max_three min_three max_four min_four
set_option linter.unusedVariables false
set_option linter.unusedSimpArgs false
theorem wpLd {P : Program} {ops : Array Oper} {rest : List Oper} {d : Option Tmp} {t2 : TypeId} {ps : String} {af : Array Edge} {gd : Option (Nat × Bool)} {a : Act} {w : World} {Q : Exit → Act → World → Prop} (ty : TypeId) (x : Operand) (h : wpList P ops Q (⟨d, .load ty x, t2, ps, af, gd⟩ :: rest) a w) : wpList P ops Q (⟨d, .load ty x, t2, ps, af, gd⟩ :: rest) a w := h
theorem wpSt {P : Program} {ops : Array Oper} {rest : List Oper} {d : Option Tmp} {t2 : TypeId} {ps : String} {af : Array Edge} {gd : Option (Nat × Bool)} {a : Act} {w : World} {Q : Exit → Act → World → Prop} (ty : TypeId) (x y : Operand) (h : wpList P ops Q (⟨d, .store ty x y, t2, ps, af, gd⟩ :: rest) a w) : wpList P ops Q (⟨d, .store ty x y, t2, ps, af, gd⟩ :: rest) a w := h
theorem wpBi {P : Program} {ops : Array Oper} {rest : List Oper} {d : Option Tmp} {t2 : TypeId} {ps : String} {af : Array Edge} {gd : Option (Nat × Bool)} {a : Act} {w : World} {Q : Exit → Act → World → Prop} (bo : BinOp) (ty : TypeId) (x y : Operand) (ty2 : TypeId) (h : wpList P ops Q (⟨d, .binOp bo ty x y ty2, t2, ps, af, gd⟩ :: rest) a w) : wpList P ops Q (⟨d, .binOp bo ty x y ty2, t2, ps, af, gd⟩ :: rest) a w := h
theorem exec_ne29s {o : Oper} {a : Act} {w : World} (p q : Operand) (ho : o.op = .binOp .neq 29 p q 29) (l : List S26) (hp : a.eval p = .agg (SV l)) (hq : a.eval q = .agg (SV l)) (hl : l.length ≤ 16) : (execOp a.eval o).run Try.prog w = .ok (.value (.bool false)) w := by
  rw [exec_ne29 p q ho l l hp hq hl, decide_eq_true rfl]; rfl
structure S39 where
  f0 : Int
  f1 : Int
  f2 : Int
  f3 : Int
def k39 : Kd S39 := Kd.iso (Kd.pair (Kd.int .i64) (Kd.pair (Kd.int .u64) (Kd.pair (Kd.int .u64) (Kd.int .i64)))) (fun x : S39 => (x.f0, x.f1, x.f2, x.f3))
theorem k39_open {w : World} {x : S39} {cs : List Value} (h : k39.K w x cs) : cs = [.int .i64 x.f0, .int .u64 x.f1, .int .u64 x.f2, .int .i64 x.f3] := by
  obtain ⟨_, _, rfl, rfl, _, _, rfl, rfl, _, _, rfl, rfl, rfl⟩ := h
  exact rfl
theorem at_T39 {w : World} {A : Option Addr} {n : Nat} {xs : List S39} (h : Kd.C k39 w A n xs) (i : Int) (h0 : 0 ≤ i) (h1 : i < n) : ∃ ad, A = some ad ∧ w.cell? (ad.add (i.toNat * 4)) = some (.int .i64 (xs.getD i.toNat ⟨0, 0, 0, 0⟩).f0) ∧ w.cell? ⟨(ad.add (i.toNat * 4)).block, (ad.add (i.toNat * 4)).off + 1, none⟩ = some (.int .u64 (xs.getD i.toNat ⟨0, 0, 0, 0⟩).f1) ∧ w.cell? ⟨(ad.add (i.toNat * 4)).block, (ad.add (i.toNat * 4)).off + 2, none⟩ = some (.int .u64 (xs.getD i.toNat ⟨0, 0, 0, 0⟩).f2) ∧ w.cell? ⟨(ad.add (i.toNat * 4)).block, (ad.add (i.toNat * 4)).off + 3, none⟩ = some (.int .i64 (xs.getD i.toNat ⟨0, 0, 0, 0⟩).f3) := by
  obtain ⟨ad, c, e, _, hK, hc0⟩ := Kd.C_get h ⟨0, 0, 0, 0⟩ i h0 h1
  have hc : ∀ j u, c[j]? = some u → w.cell? (ad.add (i.toNat * 4 + j)) = some u := hc0
  obtain rfl := k39_open hK
  exact ⟨ad, e, hc 0 _ rfl, by rw [← add_field _ _ 1 (by omega)]; exact hc 1 _ rfl, by rw [← add_field _ _ 2 (by omega)]; exact hc 2 _ rfl, by rw [← add_field _ _ 3 (by omega)]; exact hc 3 _ rfl⟩
theorem do_V (l : List S26) (kd k v z : Int) (w : World) (hl : l.length ≤ 16) (m : List S26) (e2 : Int) (d2 : Bool) (x2 er : Int) (hD : doV l kd k v = (m, (e2, d2, x2), er)) :
    Calls Try.prog 9 #[.agg (SV l), .agg #[.int .i64 kd, .int .u64 k, .int .u64 v, .int .i64 z]] w fun e w' => e = .returned (.tuple #[.agg (SV m), .agg #[.int .i64 e2, .bool d2, .int .u64 x2], .int .i64 er]) ∧ Below w.heap.size w w' := by
  have h := do_T l kd k v z w hl
  rw [hD] at h
  exact h
theorem do_U (u : List S57) (A : Option Addr) (c : Nat) (kd k v z : Int) (B : Nat) (w : World) (hR : Kd.R k57 57 w B (fun _ => True) (.slice A u.length c) u) (hc : u.length ≤ c) (hB : B ≤ w.heap.size) (hl : u.length ≤ 16) (m : List S57) (e2 : Int) (d2 : Bool) (x2 er : Int) (hD : doU u kd k v = (m, (e2, d2, x2), er)) :
    Calls Try.prog 10 #[.agg #[.slice A u.length c], .agg #[.int .i64 kd, .int .u64 k, .int .u64 v, .int .i64 z]] w fun e w' => ∃ v0_ : Value, e = .returned (.tuple #[.agg #[v0_], .agg #[.int .i64 e2, .bool d2, .int .u64 x2], .int .i64 er]) ∧ Kd.R k57 57 w' B (fun _ => True) v0_ m ∧ Below w.heap.size w w' := by
  have h := doU_T u A c kd k v z B w hR hc hB hl
  rw [hD] at h
  exact h
set_option maxHeartbeats 64000000 in
set_option maxRecDepth 100000 in
theorem exact21_T (A : Option Addr) (c : Nat) (l : List S39) (key : Int) (w : World) (hC : Kd.C k39 w A l.length l) (hcc : l.length ≤ c) :
    Calls Try.prog 3 #[.slice A l.length c, .int .u64 key] w fun e w' => e = .returned (.bool true) ∧ Below w.heap.size w w' := by
  have hu29 := Try.underlying29
  have hu32 := Try.underlying32
  have hu39 := Try.underlying39
  have hu35 := Try.underlying35
  have HC := Aside0.mk hC
  have HCC := Aside0.mk hcc
  clear hC hcc
  go_enter Try.func3, Try.ntmps3
  go_wp2_with fail
  refine (awake_T _).mono ?_
  rintro e_ w2 ⟨rfl, hb⟩
  have B1 := Aside0.mk (below_step (Below.refl w.heap.size w) hb)
  clear hb 
  have L_S := Aside0.mk (show w.heap.size ≤ w2.heap.size from B1.out.size)
  have S_2 := Aside0.mk (blk_new (w2) (.cells #[.int .i64 0, .int .u64 0, .int .u64 0, .int .u64 0, .int .u64 0, .int .u64 0, .int .u64 0, .int .u64 0, .int .u64 0, .int .u64 0, .int .u64 0, .int .u64 0, .int .u64 0, .int .u64 0, .int .u64 0, .int .u64 0, .int .u64 0, .int .u64 0, .int .u64 0, .int .u64 0, .int .u64 0, .int .u64 0, .int .u64 0, .int .u64 0, .int .u64 0, .int .u64 0, .int .u64 0, .int .u64 0, .int .u64 0, .int .u64 0, .int .u64 0, .int .u64 0, .int .u64 0] 29))
  have B3 := Aside0.mk (below_alloc B1.out (.cells #[.int .i64 0, .int .u64 0, .int .u64 0, .int .u64 0, .int .u64 0, .int .u64 0, .int .u64 0, .int .u64 0, .int .u64 0, .int .u64 0, .int .u64 0, .int .u64 0, .int .u64 0, .int .u64 0, .int .u64 0, .int .u64 0, .int .u64 0, .int .u64 0, .int .u64 0, .int .u64 0, .int .u64 0, .int .u64 0, .int .u64 0, .int .u64 0, .int .u64 0, .int .u64 0, .int .u64 0, .int .u64 0, .int .u64 0, .int .u64 0, .int .u64 0, .int .u64 0, .int .u64 0] 29))
  clear B1
  go_wp2_with (first
    | ((with_reducible refine wpSt 29 (.tmp 5) (.tmp 20) ?_); refine store_whole (w := w) (B := w.heap.size) rfl rfl 29 (.tmp 5) (.tmp 20) rfl (g := w2.heap.size) (cs := SV []) rfl _ rfl rfl (stot _) (SV_one _) S_2.out (by first | (rw [SV_size]; done) | (rw [SV_size, SV_size]; done) | (rw [SV_size]; rfl)) L_S.out B3.out ?_; intro w_4 h1 h2 h3 h4; have S_5 := Aside0.mk (h1); have B6 := Aside0.mk (h2); clear h1 h2 h3 h4 S_2 B3; have L_U := Aside0.mk (show w.heap.size ≤ w_4.heap.size from B6.out.size); have NE_S_U := Aside0.mk (show w2.heap.size ≠ w_4.heap.size by have := blk_lt S_5.out; omega); have S_7 := Aside0.mk (blk_alloc S_5.out (.cells #[.slice none 0 0] 32)); have U_8 := Aside0.mk (blk_new (w_4) (.cells #[.slice none 0 0] 32)); have B9 := Aside0.mk (below_alloc B6.out (.cells #[.slice none 0 0] 32)); clear S_5 B6)
    | ((with_reducible refine wpSt 32 (.tmp 6) (.tmp 21) ?_); refine store_whole (w := w) (B := w.heap.size) rfl rfl 32 (.tmp 6) (.tmp 21) rfl (g := w_4.heap.size) (cs := #[.slice none 0 0]) rfl _ rfl rfl (by kernel_rfl) (by simp [Value.oneCell']) U_8.out (rfl) L_U.out B9.out ?_; intro w_10 h1 h2 h3 h4; have S_11 := Aside0.mk ((h3 _ NE_S_U.out).trans S_7.out); have U_12 := Aside0.mk (h1); have B13 := Aside0.mk (h2); clear h1 h2 h3 h4 S_7 U_8 B9))
  have R_14 := Aside0.mk (Kd.R_nil k57 57 w_10 w.heap.size (fun _ => True))
  go_loopg [7] 60 (fun kq v7 w' => ∃ (i : Int) (s : List S26) (u : List S57) (A1 : Option Addr) (c1 : Nat), v7 = .int .i64 i ∧ Aside0 (0 ≤ i ∧ i ≤ l.length ∧ i ≤ 60 ∧ i + kq = 60) ∧ Aside0 (Rel s u) ∧ Aside0 (s.length ≤ 16) ∧ Aside0 (u.length ≤ 16 ∧ u.length ≤ c1) ∧ Aside0 (Below w.heap.size w w') ∧ Aside0 (w'.heap[w2.heap.size]? = some (.cells (SV s) 29 (0, 0))) ∧ Aside0 (w'.heap[w_4.heap.size]? = some (.cells #[.slice A1 u.length c1] 32 (0, 0))) ∧ Aside0 (Kd.R k57 57 w' w.heap.size (fun _ => True) (.slice A1 u.length c1) u))
  case atStart => exact ⟨0, [], [], none, 0, rfl, ⟨by omega⟩, ⟨Rel.nil⟩, ⟨by simp⟩, ⟨by simp, Nat.le_refl _⟩, ⟨B13.out⟩, ⟨S_11.out⟩, ⟨U_12.out⟩, ⟨R_14.out⟩⟩
  case round =>
    obtain ⟨i, s, u, A1, c1, rfl, HK, HREL, HS, HL, B900, S_900, U_900, R_900⟩ := hrel
    clear B13 S_11 U_12 R_14
    by_cases hi : i < (l.length : Int) ∧ i < 60
    · have d1 : decide (i < (l.length : Int)) = true := decide_eq_true hi.1
      have d2_ : decide (i < 60) = true := decide_eq_true hi.2
      have p0 : (0 : Int) ≤ i := HK.out.1
      have q0 : i < (l.length : Int) := hi.1
      have q1 := Aside0.mk (show 0 ≤ i ∧ i < (l.length : Int) ∧ i < 60 from ⟨p0, hi⟩)
      obtain ⟨ko, rfl⟩ : ∃ m, gk = m + 1 := ⟨gk - 1, by have := HK.out; have := q1.out; omega⟩
      obtain ⟨ad, e0, hx0, hx1, hx2, hx3⟩ := at_T39 HC.out i p0 hi.1
      subst e0
      generalize l.getD i.toNat ⟨0, 0, 0, 0⟩ = p at hx0 hx1 hx2 hx3
      obtain ⟨kd, k, v, z⟩ := p
      have X0 := Aside0.mk (show w.cell? (ad.add (i.toNat * 4)) = some (.int .i64 kd) from hx0)
      have X1 := Aside0.mk (show w.cell? ⟨(ad.add (i.toNat * 4)).block, (ad.add (i.toNat * 4)).off + 1, none⟩ = some (.int .u64 k) from hx1)
      have X2 := Aside0.mk (show w.cell? ⟨(ad.add (i.toNat * 4)).block, (ad.add (i.toNat * 4)).off + 2, none⟩ = some (.int .u64 v) from hx2)
      have X3 := Aside0.mk (show w.cell? ⟨(ad.add (i.toNat * 4)).block, (ad.add (i.toNat * 4)).off + 3, none⟩ = some (.int .i64 z) from hx3)
      clear hx0 hx1 hx2 hx3 hi
      obtain ⟨hd1, hd2, hd3, hd4⟩ := HREL.out.doU HS.out kd k v
      obtain ⟨mu, ⟨e2, d2, x2⟩, er, hdu⟩ : ∃ m p e, doU u kd k v = (m, p, e) := ⟨_, _, _, rfl⟩
      obtain ⟨m, pa, hdv⟩ : ∃ m p, doV s kd k v = (m, p) := ⟨_, _, rfl⟩
      rw [hdu, hdv] at hd1 hd2
      rw [hdv] at hd3 hd4
      have hd1 : pa = ((e2, d2, x2), er) := hd1
      subst hd1
      have HDU := Aside0.mk hdu
      have HDV := Aside0.mk hdv
      have HM := Aside0.mk (show Rel m mu from hd2)
      have HM16 := Aside0.mk (show m.length ≤ 16 from hd3)
      have HME := Aside0.mk (show er ≠ 0 → m = [] from hd4)
      have HMU := Aside0.mk (show mu.length ≤ 16 by have := HM.out.card; have := HM16.out; omega)
      clear hd1 hd2 hd3 hd4 hdu hdv
      have p0b : decide (0 ≤ i) = true := decide_eq_true p0
      have wi : wrap64 (i + 1) = i + 1 := by have := q1.out; unfold wrap64; omega
      replace p0 := eq_true p0
      replace q0 := eq_true q0
      go_wp2_with fail
      refine start_ (n := 15) (S := fun w' => w'.heap[w2.heap.size]? = some (.cells (SV s) 29 (0, 0)) ∧ w'.cell? (ad.add (i.toNat * 4)) = some (.int .i64 kd) ∧ w'.cell? ⟨(ad.add (i.toNat * 4)).block, (ad.add (i.toNat * 4)).off + 1, none⟩ = some (.int .u64 k) ∧ w'.cell? ⟨(ad.add (i.toNat * 4)).block, (ad.add (i.toNat * 4)).off + 2, none⟩ = some (.int .u64 v) ∧ w'.cell? ⟨(ad.add (i.toNat * 4)).block, (ad.add (i.toNat * 4)).off + 3, none⟩ = some (.int .i64 z)) (ds := [13]) #[false, false, false, false, false, false, false, false, false, false, false, false, false, false, false] (by kernel_rfl) rfl rfl ⟨blk_drew S_900.out, ((below_drew B900.out).cell (World.block_lt_of_cell? w _ X0.out)).trans X0.out, ((below_drew B900.out).cell (World.block_lt_of_cell? w _ X1.out)).trans X1.out, ((below_drew B900.out).cell (World.block_lt_of_cell? w _ X2.out)).trans X2.out, ((below_drew B900.out).cell (World.block_lt_of_cell? w _ X3.out)).trans X3.out⟩ (fun hHeld => ?_)
      refine pure_ (i := 1) (N := some 34) (v := ?_) (a' := ?_) #[false, true, false, false, false, false, false, false, false, false, false, false, false, false, false] rfl rfl (by kernel_rfl) (fun _ _ _ h => h) (Or.inl ⟨by rfl, ?_⟩) ?_ ?_
      rotate_left
      · intro w'
        go_simp
        with_reducible rfl
      rotate_left
      · simp only [Act.put, List.setIfInBounds_toArray, List.set_cons_zero, List.set_cons_succ, i64_w, i32_w]
        rfl
      refine pure_ (i := 2) (N := some 35) (v := ?_) (a' := ?_) #[false, true, true, false, false, false, false, false, false, false, false, false, false, false, false] rfl rfl (by kernel_rfl) (fun _ _ _ h => h) (Or.inl ⟨by rfl, ?_⟩) ?_ ?_
      rotate_left
      · intro w'
        go_simp
        with_reducible rfl
      rotate_left
      · simp only [Act.put, List.setIfInBounds_toArray, List.set_cons_zero, List.set_cons_succ, i64_w, i32_w]
        rfl
      refine pure_ (i := 3) (N := some 36) (v := ?_) (a' := ?_) #[false, true, true, true, false, false, false, false, false, false, false, false, false, false, false] rfl rfl (by kernel_rfl) (fun _ _ _ h => h) (Or.inl ⟨by rfl, ?_⟩) ?_ ?_
      rotate_left
      · intro w'
        go_simp
        with_reducible rfl
      rotate_left
      · simp only [Act.put, List.setIfInBounds_toArray, List.set_cons_zero, List.set_cons_succ, i64_w, i32_w]
        rfl
      refine take_ (i := 0) (N := some 33) (v := ?_) (a' := ?_) #[true, true, true, true, false, false, false, false, false, false, false, false, false, false, false] rfl rfl (by kernel_rfl) (fun _ _ _ h => h) (Or.inl ⟨by rfl, ?_⟩) hHeld ?_ ?_
      rotate_left
      · rintro w' ⟨s0, s1, s2, s3, s4⟩
        refine exec_load_row 29 (.tmp 5) ?_ _ ?_ 29 (SV s) (0, 0) _ s0 Try.underlying29 rfl (info29 _) <;> rfl
      rotate_left
      · simp only [Act.put, List.setIfInBounds_toArray, List.set_cons_zero, List.set_cons_succ, i64_w, i32_w]
        rfl
      refine take_ (i := 4) (N := some 37) (v := ?_) (a' := ?_) #[true, true, true, true, true, false, false, false, false, false, false, false, false, false, false] rfl rfl (by kernel_rfl) (fun _ _ _ h => h) (Or.inl ⟨by rfl, ?_⟩) hHeld ?_ ?_
      rotate_left
      · rintro w' ⟨s0, s1, s2, s3, s4⟩
        go_simp
        with_reducible rfl
      rotate_left
      · simp only [Act.put, List.setIfInBounds_toArray, List.set_cons_zero, List.set_cons_succ, i64_w, i32_w]
        rfl
      refine join_ (σ := Nat × Nat) 3 #[true, true, true, true, true, true, true, true, true, true, true, true, false, false, false] (fun s_ => [(38, .tuple #[.agg (SV m), .agg #[.int .i64 e2, .bool d2, .int .u64 x2], .int .i64 er]), (8, .pointer (some ⟨s_.1, 0, none⟩)), (9, .pointer (some ⟨s_.2, 0, none⟩)), (32, .tuple #[.agg (SV m), .agg #[.int .i64 e2, .bool d2, .int .u64 x2], .int .i64 er]), (39, .agg (SV m)), (40, .agg #[.int .i64 e2, .bool d2, .int .u64 x2]), (41, .int .i64 er)]) (fun s_ w' => (w'.heap[w2.heap.size]? = some (.cells (SV s) 29 (0, 0)) ∧ w'.cell? (ad.add (i.toNat * 4)) = some (.int .i64 kd) ∧ w'.cell? ⟨(ad.add (i.toNat * 4)).block, (ad.add (i.toNat * 4)).off + 1, none⟩ = some (.int .u64 k) ∧ w'.cell? ⟨(ad.add (i.toNat * 4)).block, (ad.add (i.toNat * 4)).off + 2, none⟩ = some (.int .u64 v) ∧ w'.cell? ⟨(ad.add (i.toNat * 4)).block, (ad.add (i.toNat * 4)).off + 3, none⟩ = some (.int .i64 z)) ∧ w'.heap[w2.heap.size]? = some (.cells (SV s) 29 (0, 0)) ∧ w'.heap[w_4.heap.size]? = some (.cells (#[.slice A1 u.length c1]) 32 (0, 0)) ∧ w'.heap[s_.1]? = some (.cells #[.int .i64 0, .int .u64 0, .int .u64 0, .int .u64 0, .int .u64 0, .int .u64 0, .int .u64 0, .int .u64 0, .int .u64 0, .int .u64 0, .int .u64 0, .int .u64 0, .int .u64 0, .int .u64 0, .int .u64 0, .int .u64 0, .int .u64 0, .int .u64 0, .int .u64 0, .int .u64 0, .int .u64 0, .int .u64 0, .int .u64 0, .int .u64 0, .int .u64 0, .int .u64 0, .int .u64 0, .int .u64 0, .int .u64 0, .int .u64 0, .int .u64 0, .int .u64 0, .int .u64 0] 29 (0, 0)) ∧ w'.heap[s_.2]? = some (.cells #[.int .i64 0, .bool false, .int .u64 0] 35 (0, 0)) ∧ w.heap.size ≤ s_.1 ∧ w.heap.size ≤ s_.2 ∧ w2.heap.size ≠ s_.1 ∧ w_4.heap.size ≠ s_.1 ∧ w2.heap.size ≠ s_.2 ∧ w_4.heap.size ≠ s_.2 ∧ s_.1 ≠ s_.2 ∧ Kd.R k57 57 w' w.heap.size (fun _ => True) (.slice A1 u.length c1) u ∧ Below w.heap.size w w') ?_ ?_
      rotate_left
      · intro hCont
        refine three_ (i := 5) (j := 10) (k := 11) (Ni := some 38) (Nj := some 8) (Nk := some 9) #[true, true, true, true, true, true, false, false, false, false, false, false, false, false, false] #[true, true, true, true, true, false, false, false, false, false, true, false, false, false, false] #[true, true, true, true, true, false, false, false, false, false, false, true, false, false, false] rfl rfl rfl rfl rfl rfl (by kernel_rfl) (by decide) (by decide) (by decide) (fun K hK => ?_) (fun K hK => ?_) (fun K hK => ?_)
        · skip
          refine goes_ Try.func9 (by kernel_rfl) rfl #[.agg (SV s), .agg #[.int .i64 kd, .int .u64 k, .int .u64 v, .int .i64 z]] (by rfl) rfl rfl (by simp only [List.map_toArray, List.map_cons, List.map_nil]; rfl) ?_
          with_reducible refine (do_V s kd k v z _ HS.out m e2 d2 x2 er HDV.out).mono ?_
          rintro e_ wk1 ⟨rfl, hb⟩
          refine ⟨_, rfl, ?_⟩
          have S_f1 := Aside0.mk (blk_below (blk_drew S_900.out) hb)
          have U_f1 := Aside0.mk (blk_below (blk_drew U_900.out) hb)
          have R_f1 := Aside0.mk (Kd.R_below (Kd.R_drew R_900.out) hb)
          have B_f1 := Aside0.mk (below_step (below_drew B900.out) hb)
          clear hb 
          refine hK.out _ _ ⟨S_f1.out, (B_f1.out.cell (World.block_lt_of_cell? w _ X0.out)).trans X0.out, (B_f1.out.cell (World.block_lt_of_cell? w _ X1.out)).trans X1.out, (B_f1.out.cell (World.block_lt_of_cell? w _ X2.out)).trans X2.out, (B_f1.out.cell (World.block_lt_of_cell? w _ X3.out)).trans X3.out⟩ (fun hHeld => ?_)
          clear hK K
          refine norm_ (a' := ?_) ?_ ?_
          rotate_left
          · show Act.put _ (some 38) _ = _
            simp only [Act.put, List.setIfInBounds_toArray, List.set_cons_zero, List.set_cons_succ, i64_w, i32_w]
            rfl
          refine pure_ (i := 6) (N := some 32) (v := ?_) (a' := ?_) #[true, true, true, true, true, true, true, false, false, false, false, false, false, false, false] rfl rfl (by kernel_rfl) (fun _ _ _ h => h) (Or.inl ⟨by rfl, ?_⟩) ?_ ?_
          rotate_left
          · intro w'
            go_simp
            with_reducible rfl
          rotate_left
          · simp only [Act.put, List.setIfInBounds_toArray, List.set_cons_zero, List.set_cons_succ, i64_w, i32_w]
            rfl
          refine pure_ (i := 7) (N := some 39) (v := ?_) (a' := ?_) #[true, true, true, true, true, true, true, true, false, false, false, false, false, false, false] rfl rfl (by kernel_rfl) (fun _ _ _ h => h) (Or.inl ⟨by rfl, ?_⟩) ?_ ?_
          rotate_left
          · intro w'
            go_simp
            with_reducible rfl
          rotate_left
          · simp only [Act.put, List.setIfInBounds_toArray, List.set_cons_zero, List.set_cons_succ, i64_w, i32_w]
            rfl
          refine pure_ (i := 8) (N := some 40) (v := ?_) (a' := ?_) #[true, true, true, true, true, true, true, true, true, false, false, false, false, false, false] rfl rfl (by kernel_rfl) (fun _ _ _ h => h) (Or.inl ⟨by rfl, ?_⟩) ?_ ?_
          rotate_left
          · intro w'
            go_simp
            with_reducible rfl
          rotate_left
          · simp only [Act.put, List.setIfInBounds_toArray, List.set_cons_zero, List.set_cons_succ, i64_w, i32_w]
            rfl
          refine pure_ (i := 9) (N := some 41) (v := ?_) (a' := ?_) #[true, true, true, true, true, true, true, true, true, true, false, false, false, false, false] rfl rfl (by kernel_rfl) (fun _ _ _ h => h) (Or.inl ⟨by rfl, ?_⟩) ?_ ?_
          rotate_left
          · intro w'
            go_simp
            with_reducible rfl
          rotate_left
          · simp only [Act.put, List.setIfInBounds_toArray, List.set_cons_zero, List.set_cons_succ, i64_w, i32_w]
            rfl
          refine two_ (i := 10) (j := 11) (Ni := some 8) (Nj := some 9) #[true, true, true, true, true, true, true, true, true, true, true, false, false, false, false] #[true, true, true, true, true, true, true, true, true, true, false, true, false, false, false] rfl rfl rfl rfl (by kernel_rfl) (by decide) (by decide) (fun K hK => ?_) (fun K hK => ?_)
          · skip
            refine box_step ?hg (N := 8) ?hd (cs := #[.int .i64 0, .int .u64 0, .int .u64 0, .int .u64 0, .int .u64 0, .int .u64 0, .int .u64 0, .int .u64 0, .int .u64 0, .int .u64 0, .int .u64 0, .int .u64 0, .int .u64 0, .int .u64 0, .int .u64 0, .int .u64 0, .int .u64 0, .int .u64 0, .int .u64 0, .int .u64 0, .int .u64 0, .int .u64 0, .int .u64 0, .int .u64 0, .int .u64 0, .int .u64 0, .int .u64 0, .int .u64 0, .int .u64 0, .int .u64 0, .int .u64 0, .int .u64 0, .int .u64 0]) (t := 29) ?hr ?_; (case hd => rfl); (case hg => rfl); (case hr => first | (go_simp; done) | (go_simp; rfl))
            intro gT hg wk2 hbox hb
            have L_T := Aside0.mk (show w.heap.size ≤ gT by rw [hg]; exact B_f1.out.size)
            have NE_S_T := Aside0.mk (show w2.heap.size ≠ gT by have := blk_lt S_f1.out; omega)
            have NE_U_T := Aside0.mk (show w_4.heap.size ≠ gT by have := blk_lt U_f1.out; omega)
            have S_f2 := Aside0.mk (blk_below S_f1.out hb)
            have U_f2 := Aside0.mk (blk_below U_f1.out hb)
            have T_f2 := Aside0.mk hbox
            have R_f2 := Aside0.mk (Kd.R_below R_f1.out hb)
            have B_f2 := Aside0.mk (below_step B_f1.out hb)
            clear hb S_f1 U_f1 R_f1 B_f1 hg hbox
            refine hK.out _ _ ⟨S_f2.out, (B_f2.out.cell (World.block_lt_of_cell? w _ X0.out)).trans X0.out, (B_f2.out.cell (World.block_lt_of_cell? w _ X1.out)).trans X1.out, (B_f2.out.cell (World.block_lt_of_cell? w _ X2.out)).trans X2.out, (B_f2.out.cell (World.block_lt_of_cell? w _ X3.out)).trans X3.out⟩ (fun hHeld => ?_)
            clear hK K
            refine norm_ (a' := ?_) ?_ ?_
            rotate_left
            · show Act.put _ (some 8) _ = _
              simp only [Act.put, List.setIfInBounds_toArray, List.set_cons_zero, List.set_cons_succ, i64_w, i32_w]
              rfl
            refine one_ (i := 11) (N := some 9) #[true, true, true, true, true, true, true, true, true, true, true, true, false, false, false] rfl rfl (by kernel_rfl) (by decide) (fun K hK => ?_)
            refine box_step ?hg (N := 9) ?hd (cs := #[.int .i64 0, .bool false, .int .u64 0]) (t := 35) ?hr ?_; (case hd => rfl); (case hg => rfl); (case hr => first | (go_simp; done) | (go_simp; rfl))
            intro gAA hg wk3 hbox hb
            have L_AA := Aside0.mk (show w.heap.size ≤ gAA by rw [hg]; exact B_f2.out.size)
            have NE_S_AA := Aside0.mk (show w2.heap.size ≠ gAA by have := blk_lt S_f2.out; omega)
            have NE_U_AA := Aside0.mk (show w_4.heap.size ≠ gAA by have := blk_lt U_f2.out; omega)
            have NE_T_AA := Aside0.mk (show gT ≠ gAA by have := blk_lt T_f2.out; omega)
            have S_f3 := Aside0.mk (blk_below S_f2.out hb)
            have U_f3 := Aside0.mk (blk_below U_f2.out hb)
            have T_f3 := Aside0.mk (blk_below T_f2.out hb)
            have AA_f3 := Aside0.mk hbox
            have R_f3 := Aside0.mk (Kd.R_below R_f2.out hb)
            have B_f3 := Aside0.mk (below_step B_f2.out hb)
            clear hb S_f2 U_f2 T_f2 R_f2 B_f2 hg hbox
            refine hK.out _ _ ⟨S_f3.out, (B_f3.out.cell (World.block_lt_of_cell? w _ X0.out)).trans X0.out, (B_f3.out.cell (World.block_lt_of_cell? w _ X1.out)).trans X1.out, (B_f3.out.cell (World.block_lt_of_cell? w _ X2.out)).trans X2.out, (B_f3.out.cell (World.block_lt_of_cell? w _ X3.out)).trans X3.out⟩ (fun hHeld => ?_)
            clear hK K
            refine norm_ (a' := ?_) ?_ ?_
            rotate_left
            · show Act.put _ (some 9) _ = _
              simp only [Act.put, List.setIfInBounds_toArray, List.set_cons_zero, List.set_cons_succ, i64_w, i32_w]
              rfl
            exact norm_ (by simp only [putAll, Act.put, List.setIfInBounds_toArray, List.set_cons_zero, List.set_cons_succ]) (hCont (gT, gAA) _ ⟨hHeld, S_f3.out, U_f3.out, T_f3.out, AA_f3.out, L_T.out, L_AA.out, NE_S_T.out, NE_U_T.out, NE_S_AA.out, NE_U_AA.out, NE_T_AA.out, R_f3.out, B_f3.out⟩)
          · skip
            refine box_step ?hg (N := 9) ?hd (cs := #[.int .i64 0, .bool false, .int .u64 0]) (t := 35) ?hr ?_; (case hd => rfl); (case hg => rfl); (case hr => first | (go_simp; done) | (go_simp; rfl))
            intro gAA hg wk2 hbox hb
            have L_AA := Aside0.mk (show w.heap.size ≤ gAA by rw [hg]; exact B_f1.out.size)
            have NE_S_AA := Aside0.mk (show w2.heap.size ≠ gAA by have := blk_lt S_f1.out; omega)
            have NE_U_AA := Aside0.mk (show w_4.heap.size ≠ gAA by have := blk_lt U_f1.out; omega)
            have S_f2 := Aside0.mk (blk_below S_f1.out hb)
            have U_f2 := Aside0.mk (blk_below U_f1.out hb)
            have AA_f2 := Aside0.mk hbox
            have R_f2 := Aside0.mk (Kd.R_below R_f1.out hb)
            have B_f2 := Aside0.mk (below_step B_f1.out hb)
            clear hb S_f1 U_f1 R_f1 B_f1 hg hbox
            refine hK.out _ _ ⟨S_f2.out, (B_f2.out.cell (World.block_lt_of_cell? w _ X0.out)).trans X0.out, (B_f2.out.cell (World.block_lt_of_cell? w _ X1.out)).trans X1.out, (B_f2.out.cell (World.block_lt_of_cell? w _ X2.out)).trans X2.out, (B_f2.out.cell (World.block_lt_of_cell? w _ X3.out)).trans X3.out⟩ (fun hHeld => ?_)
            clear hK K
            refine norm_ (a' := ?_) ?_ ?_
            rotate_left
            · show Act.put _ (some 9) _ = _
              simp only [Act.put, List.setIfInBounds_toArray, List.set_cons_zero, List.set_cons_succ, i64_w, i32_w]
              rfl
            refine one_ (i := 10) (N := some 8) #[true, true, true, true, true, true, true, true, true, true, true, true, false, false, false] rfl rfl (by kernel_rfl) (by decide) (fun K hK => ?_)
            refine box_step ?hg (N := 8) ?hd (cs := #[.int .i64 0, .int .u64 0, .int .u64 0, .int .u64 0, .int .u64 0, .int .u64 0, .int .u64 0, .int .u64 0, .int .u64 0, .int .u64 0, .int .u64 0, .int .u64 0, .int .u64 0, .int .u64 0, .int .u64 0, .int .u64 0, .int .u64 0, .int .u64 0, .int .u64 0, .int .u64 0, .int .u64 0, .int .u64 0, .int .u64 0, .int .u64 0, .int .u64 0, .int .u64 0, .int .u64 0, .int .u64 0, .int .u64 0, .int .u64 0, .int .u64 0, .int .u64 0, .int .u64 0]) (t := 29) ?hr ?_; (case hd => rfl); (case hg => rfl); (case hr => first | (go_simp; done) | (go_simp; rfl))
            intro gT hg wk3 hbox hb
            have L_T := Aside0.mk (show w.heap.size ≤ gT by rw [hg]; exact B_f2.out.size)
            have NE_S_T := Aside0.mk (show w2.heap.size ≠ gT by have := blk_lt S_f2.out; omega)
            have NE_U_T := Aside0.mk (show w_4.heap.size ≠ gT by have := blk_lt U_f2.out; omega)
            have NE_AA_T := Aside0.mk (show gAA ≠ gT by have := blk_lt AA_f2.out; omega)
            have S_f3 := Aside0.mk (blk_below S_f2.out hb)
            have U_f3 := Aside0.mk (blk_below U_f2.out hb)
            have AA_f3 := Aside0.mk (blk_below AA_f2.out hb)
            have T_f3 := Aside0.mk hbox
            have R_f3 := Aside0.mk (Kd.R_below R_f2.out hb)
            have B_f3 := Aside0.mk (below_step B_f2.out hb)
            clear hb S_f2 U_f2 AA_f2 R_f2 B_f2 hg hbox
            refine hK.out _ _ ⟨S_f3.out, (B_f3.out.cell (World.block_lt_of_cell? w _ X0.out)).trans X0.out, (B_f3.out.cell (World.block_lt_of_cell? w _ X1.out)).trans X1.out, (B_f3.out.cell (World.block_lt_of_cell? w _ X2.out)).trans X2.out, (B_f3.out.cell (World.block_lt_of_cell? w _ X3.out)).trans X3.out⟩ (fun hHeld => ?_)
            clear hK K
            refine norm_ (a' := ?_) ?_ ?_
            rotate_left
            · show Act.put _ (some 8) _ = _
              simp only [Act.put, List.setIfInBounds_toArray, List.set_cons_zero, List.set_cons_succ, i64_w, i32_w]
              rfl
            exact norm_ (by simp only [putAll, Act.put, List.setIfInBounds_toArray, List.set_cons_zero, List.set_cons_succ]) (hCont (gT, gAA) _ ⟨hHeld, S_f3.out, U_f3.out, T_f3.out, AA_f3.out, L_T.out, L_AA.out, NE_S_T.out, NE_U_T.out, NE_S_AA.out, NE_U_AA.out, (Ne.symm NE_AA_T.out), R_f3.out, B_f3.out⟩)
        · skip
          refine box_step ?hg (N := 8) ?hd (cs := #[.int .i64 0, .int .u64 0, .int .u64 0, .int .u64 0, .int .u64 0, .int .u64 0, .int .u64 0, .int .u64 0, .int .u64 0, .int .u64 0, .int .u64 0, .int .u64 0, .int .u64 0, .int .u64 0, .int .u64 0, .int .u64 0, .int .u64 0, .int .u64 0, .int .u64 0, .int .u64 0, .int .u64 0, .int .u64 0, .int .u64 0, .int .u64 0, .int .u64 0, .int .u64 0, .int .u64 0, .int .u64 0, .int .u64 0, .int .u64 0, .int .u64 0, .int .u64 0, .int .u64 0]) (t := 29) ?hr ?_; (case hd => rfl); (case hg => rfl); (case hr => first | (go_simp; done) | (go_simp; rfl))
          intro gT hg wk1 hbox hb
          have L_T := Aside0.mk (show w.heap.size ≤ gT by rw [hg]; exact (below_drew B900.out).size)
          have NE_S_T := Aside0.mk (show w2.heap.size ≠ gT by have := blk_lt (blk_drew S_900.out); omega)
          have NE_U_T := Aside0.mk (show w_4.heap.size ≠ gT by have := blk_lt (blk_drew U_900.out); omega)
          have S_f1 := Aside0.mk (blk_below (blk_drew S_900.out) hb)
          have U_f1 := Aside0.mk (blk_below (blk_drew U_900.out) hb)
          have T_f1 := Aside0.mk hbox
          have R_f1 := Aside0.mk (Kd.R_below (Kd.R_drew R_900.out) hb)
          have B_f1 := Aside0.mk (below_step (below_drew B900.out) hb)
          clear hb  hg hbox
          refine hK.out _ _ ⟨S_f1.out, (B_f1.out.cell (World.block_lt_of_cell? w _ X0.out)).trans X0.out, (B_f1.out.cell (World.block_lt_of_cell? w _ X1.out)).trans X1.out, (B_f1.out.cell (World.block_lt_of_cell? w _ X2.out)).trans X2.out, (B_f1.out.cell (World.block_lt_of_cell? w _ X3.out)).trans X3.out⟩ (fun hHeld => ?_)
          clear hK K
          refine norm_ (a' := ?_) ?_ ?_
          rotate_left
          · show Act.put _ (some 8) _ = _
            simp only [Act.put, List.setIfInBounds_toArray, List.set_cons_zero, List.set_cons_succ, i64_w, i32_w]
            rfl
          refine two_ (i := 5) (j := 11) (Ni := some 38) (Nj := some 9) #[true, true, true, true, true, true, false, false, false, false, true, false, false, false, false] #[true, true, true, true, true, false, false, false, false, false, true, true, false, false, false] rfl rfl rfl rfl (by kernel_rfl) (by decide) (by decide) (fun K hK => ?_) (fun K hK => ?_)
          · skip
            refine goes_ Try.func9 (by kernel_rfl) rfl #[.agg (SV s), .agg #[.int .i64 kd, .int .u64 k, .int .u64 v, .int .i64 z]] (by rfl) rfl rfl (by simp only [List.map_toArray, List.map_cons, List.map_nil]; rfl) ?_
            with_reducible refine (do_V s kd k v z _ HS.out m e2 d2 x2 er HDV.out).mono ?_
            rintro e_ wk2 ⟨rfl, hb⟩
            refine ⟨_, rfl, ?_⟩
            have S_f2 := Aside0.mk (blk_below S_f1.out hb)
            have U_f2 := Aside0.mk (blk_below U_f1.out hb)
            have T_f2 := Aside0.mk (blk_below T_f1.out hb)
            have R_f2 := Aside0.mk (Kd.R_below R_f1.out hb)
            have B_f2 := Aside0.mk (below_step B_f1.out hb)
            clear hb S_f1 U_f1 T_f1 R_f1 B_f1
            refine hK.out _ _ ⟨S_f2.out, (B_f2.out.cell (World.block_lt_of_cell? w _ X0.out)).trans X0.out, (B_f2.out.cell (World.block_lt_of_cell? w _ X1.out)).trans X1.out, (B_f2.out.cell (World.block_lt_of_cell? w _ X2.out)).trans X2.out, (B_f2.out.cell (World.block_lt_of_cell? w _ X3.out)).trans X3.out⟩ (fun hHeld => ?_)
            clear hK K
            refine norm_ (a' := ?_) ?_ ?_
            rotate_left
            · show Act.put _ (some 38) _ = _
              simp only [Act.put, List.setIfInBounds_toArray, List.set_cons_zero, List.set_cons_succ, i64_w, i32_w]
              rfl
            refine pure_ (i := 6) (N := some 32) (v := ?_) (a' := ?_) #[true, true, true, true, true, true, true, false, false, false, true, false, false, false, false] rfl rfl (by kernel_rfl) (fun _ _ _ h => h) (Or.inl ⟨by rfl, ?_⟩) ?_ ?_
            rotate_left
            · intro w'
              go_simp
              with_reducible rfl
            rotate_left
            · simp only [Act.put, List.setIfInBounds_toArray, List.set_cons_zero, List.set_cons_succ, i64_w, i32_w]
              rfl
            refine pure_ (i := 7) (N := some 39) (v := ?_) (a' := ?_) #[true, true, true, true, true, true, true, true, false, false, true, false, false, false, false] rfl rfl (by kernel_rfl) (fun _ _ _ h => h) (Or.inl ⟨by rfl, ?_⟩) ?_ ?_
            rotate_left
            · intro w'
              go_simp
              with_reducible rfl
            rotate_left
            · simp only [Act.put, List.setIfInBounds_toArray, List.set_cons_zero, List.set_cons_succ, i64_w, i32_w]
              rfl
            refine pure_ (i := 8) (N := some 40) (v := ?_) (a' := ?_) #[true, true, true, true, true, true, true, true, true, false, true, false, false, false, false] rfl rfl (by kernel_rfl) (fun _ _ _ h => h) (Or.inl ⟨by rfl, ?_⟩) ?_ ?_
            rotate_left
            · intro w'
              go_simp
              with_reducible rfl
            rotate_left
            · simp only [Act.put, List.setIfInBounds_toArray, List.set_cons_zero, List.set_cons_succ, i64_w, i32_w]
              rfl
            refine pure_ (i := 9) (N := some 41) (v := ?_) (a' := ?_) #[true, true, true, true, true, true, true, true, true, true, true, false, false, false, false] rfl rfl (by kernel_rfl) (fun _ _ _ h => h) (Or.inl ⟨by rfl, ?_⟩) ?_ ?_
            rotate_left
            · intro w'
              go_simp
              with_reducible rfl
            rotate_left
            · simp only [Act.put, List.setIfInBounds_toArray, List.set_cons_zero, List.set_cons_succ, i64_w, i32_w]
              rfl
            refine one_ (i := 11) (N := some 9) #[true, true, true, true, true, true, true, true, true, true, true, true, false, false, false] rfl rfl (by kernel_rfl) (by decide) (fun K hK => ?_)
            refine box_step ?hg (N := 9) ?hd (cs := #[.int .i64 0, .bool false, .int .u64 0]) (t := 35) ?hr ?_; (case hd => rfl); (case hg => rfl); (case hr => first | (go_simp; done) | (go_simp; rfl))
            intro gAA hg wk3 hbox hb
            have L_AA := Aside0.mk (show w.heap.size ≤ gAA by rw [hg]; exact B_f2.out.size)
            have NE_S_AA := Aside0.mk (show w2.heap.size ≠ gAA by have := blk_lt S_f2.out; omega)
            have NE_U_AA := Aside0.mk (show w_4.heap.size ≠ gAA by have := blk_lt U_f2.out; omega)
            have NE_T_AA := Aside0.mk (show gT ≠ gAA by have := blk_lt T_f2.out; omega)
            have S_f3 := Aside0.mk (blk_below S_f2.out hb)
            have U_f3 := Aside0.mk (blk_below U_f2.out hb)
            have T_f3 := Aside0.mk (blk_below T_f2.out hb)
            have AA_f3 := Aside0.mk hbox
            have R_f3 := Aside0.mk (Kd.R_below R_f2.out hb)
            have B_f3 := Aside0.mk (below_step B_f2.out hb)
            clear hb S_f2 U_f2 T_f2 R_f2 B_f2 hg hbox
            refine hK.out _ _ ⟨S_f3.out, (B_f3.out.cell (World.block_lt_of_cell? w _ X0.out)).trans X0.out, (B_f3.out.cell (World.block_lt_of_cell? w _ X1.out)).trans X1.out, (B_f3.out.cell (World.block_lt_of_cell? w _ X2.out)).trans X2.out, (B_f3.out.cell (World.block_lt_of_cell? w _ X3.out)).trans X3.out⟩ (fun hHeld => ?_)
            clear hK K
            refine norm_ (a' := ?_) ?_ ?_
            rotate_left
            · show Act.put _ (some 9) _ = _
              simp only [Act.put, List.setIfInBounds_toArray, List.set_cons_zero, List.set_cons_succ, i64_w, i32_w]
              rfl
            exact norm_ (by simp only [putAll, Act.put, List.setIfInBounds_toArray, List.set_cons_zero, List.set_cons_succ]) (hCont (gT, gAA) _ ⟨hHeld, S_f3.out, U_f3.out, T_f3.out, AA_f3.out, L_T.out, L_AA.out, NE_S_T.out, NE_U_T.out, NE_S_AA.out, NE_U_AA.out, NE_T_AA.out, R_f3.out, B_f3.out⟩)
          · skip
            refine box_step ?hg (N := 9) ?hd (cs := #[.int .i64 0, .bool false, .int .u64 0]) (t := 35) ?hr ?_; (case hd => rfl); (case hg => rfl); (case hr => first | (go_simp; done) | (go_simp; rfl))
            intro gAA hg wk2 hbox hb
            have L_AA := Aside0.mk (show w.heap.size ≤ gAA by rw [hg]; exact B_f1.out.size)
            have NE_S_AA := Aside0.mk (show w2.heap.size ≠ gAA by have := blk_lt S_f1.out; omega)
            have NE_U_AA := Aside0.mk (show w_4.heap.size ≠ gAA by have := blk_lt U_f1.out; omega)
            have NE_T_AA := Aside0.mk (show gT ≠ gAA by have := blk_lt T_f1.out; omega)
            have S_f2 := Aside0.mk (blk_below S_f1.out hb)
            have U_f2 := Aside0.mk (blk_below U_f1.out hb)
            have T_f2 := Aside0.mk (blk_below T_f1.out hb)
            have AA_f2 := Aside0.mk hbox
            have R_f2 := Aside0.mk (Kd.R_below R_f1.out hb)
            have B_f2 := Aside0.mk (below_step B_f1.out hb)
            clear hb S_f1 U_f1 T_f1 R_f1 B_f1 hg hbox
            refine hK.out _ _ ⟨S_f2.out, (B_f2.out.cell (World.block_lt_of_cell? w _ X0.out)).trans X0.out, (B_f2.out.cell (World.block_lt_of_cell? w _ X1.out)).trans X1.out, (B_f2.out.cell (World.block_lt_of_cell? w _ X2.out)).trans X2.out, (B_f2.out.cell (World.block_lt_of_cell? w _ X3.out)).trans X3.out⟩ (fun hHeld => ?_)
            clear hK K
            refine norm_ (a' := ?_) ?_ ?_
            rotate_left
            · show Act.put _ (some 9) _ = _
              simp only [Act.put, List.setIfInBounds_toArray, List.set_cons_zero, List.set_cons_succ, i64_w, i32_w]
              rfl
            refine one_ (i := 5) (N := some 38) #[true, true, true, true, true, true, false, false, false, false, true, true, false, false, false] rfl rfl (by kernel_rfl) (by decide) (fun K hK => ?_)
            refine goes_ Try.func9 (by kernel_rfl) rfl #[.agg (SV s), .agg #[.int .i64 kd, .int .u64 k, .int .u64 v, .int .i64 z]] (by rfl) rfl rfl (by simp only [List.map_toArray, List.map_cons, List.map_nil]; rfl) ?_
            with_reducible refine (do_V s kd k v z _ HS.out m e2 d2 x2 er HDV.out).mono ?_
            rintro e_ wk3 ⟨rfl, hb⟩
            refine ⟨_, rfl, ?_⟩
            have S_f3 := Aside0.mk (blk_below S_f2.out hb)
            have U_f3 := Aside0.mk (blk_below U_f2.out hb)
            have T_f3 := Aside0.mk (blk_below T_f2.out hb)
            have AA_f3 := Aside0.mk (blk_below AA_f2.out hb)
            have R_f3 := Aside0.mk (Kd.R_below R_f2.out hb)
            have B_f3 := Aside0.mk (below_step B_f2.out hb)
            clear hb S_f2 U_f2 T_f2 AA_f2 R_f2 B_f2
            refine hK.out _ _ ⟨S_f3.out, (B_f3.out.cell (World.block_lt_of_cell? w _ X0.out)).trans X0.out, (B_f3.out.cell (World.block_lt_of_cell? w _ X1.out)).trans X1.out, (B_f3.out.cell (World.block_lt_of_cell? w _ X2.out)).trans X2.out, (B_f3.out.cell (World.block_lt_of_cell? w _ X3.out)).trans X3.out⟩ (fun hHeld => ?_)
            clear hK K
            refine norm_ (a' := ?_) ?_ ?_
            rotate_left
            · show Act.put _ (some 38) _ = _
              simp only [Act.put, List.setIfInBounds_toArray, List.set_cons_zero, List.set_cons_succ, i64_w, i32_w]
              rfl
            refine pure_ (i := 6) (N := some 32) (v := ?_) (a' := ?_) #[true, true, true, true, true, true, true, false, false, false, true, true, false, false, false] rfl rfl (by kernel_rfl) (fun _ _ _ h => h) (Or.inl ⟨by rfl, ?_⟩) ?_ ?_
            rotate_left
            · intro w'
              go_simp
              with_reducible rfl
            rotate_left
            · simp only [Act.put, List.setIfInBounds_toArray, List.set_cons_zero, List.set_cons_succ, i64_w, i32_w]
              rfl
            refine pure_ (i := 7) (N := some 39) (v := ?_) (a' := ?_) #[true, true, true, true, true, true, true, true, false, false, true, true, false, false, false] rfl rfl (by kernel_rfl) (fun _ _ _ h => h) (Or.inl ⟨by rfl, ?_⟩) ?_ ?_
            rotate_left
            · intro w'
              go_simp
              with_reducible rfl
            rotate_left
            · simp only [Act.put, List.setIfInBounds_toArray, List.set_cons_zero, List.set_cons_succ, i64_w, i32_w]
              rfl
            refine pure_ (i := 8) (N := some 40) (v := ?_) (a' := ?_) #[true, true, true, true, true, true, true, true, true, false, true, true, false, false, false] rfl rfl (by kernel_rfl) (fun _ _ _ h => h) (Or.inl ⟨by rfl, ?_⟩) ?_ ?_
            rotate_left
            · intro w'
              go_simp
              with_reducible rfl
            rotate_left
            · simp only [Act.put, List.setIfInBounds_toArray, List.set_cons_zero, List.set_cons_succ, i64_w, i32_w]
              rfl
            refine pure_ (i := 9) (N := some 41) (v := ?_) (a' := ?_) #[true, true, true, true, true, true, true, true, true, true, true, true, false, false, false] rfl rfl (by kernel_rfl) (fun _ _ _ h => h) (Or.inl ⟨by rfl, ?_⟩) ?_ ?_
            rotate_left
            · intro w'
              go_simp
              with_reducible rfl
            rotate_left
            · simp only [Act.put, List.setIfInBounds_toArray, List.set_cons_zero, List.set_cons_succ, i64_w, i32_w]
              rfl
            exact norm_ (by simp only [putAll, Act.put, List.setIfInBounds_toArray, List.set_cons_zero, List.set_cons_succ]) (hCont (gT, gAA) _ ⟨hHeld, S_f3.out, U_f3.out, T_f3.out, AA_f3.out, L_T.out, L_AA.out, NE_S_T.out, NE_U_T.out, NE_S_AA.out, NE_U_AA.out, NE_T_AA.out, R_f3.out, B_f3.out⟩)
        · skip
          refine box_step ?hg (N := 9) ?hd (cs := #[.int .i64 0, .bool false, .int .u64 0]) (t := 35) ?hr ?_; (case hd => rfl); (case hg => rfl); (case hr => first | (go_simp; done) | (go_simp; rfl))
          intro gAA hg wk1 hbox hb
          have L_AA := Aside0.mk (show w.heap.size ≤ gAA by rw [hg]; exact (below_drew B900.out).size)
          have NE_S_AA := Aside0.mk (show w2.heap.size ≠ gAA by have := blk_lt (blk_drew S_900.out); omega)
          have NE_U_AA := Aside0.mk (show w_4.heap.size ≠ gAA by have := blk_lt (blk_drew U_900.out); omega)
          have S_f1 := Aside0.mk (blk_below (blk_drew S_900.out) hb)
          have U_f1 := Aside0.mk (blk_below (blk_drew U_900.out) hb)
          have AA_f1 := Aside0.mk hbox
          have R_f1 := Aside0.mk (Kd.R_below (Kd.R_drew R_900.out) hb)
          have B_f1 := Aside0.mk (below_step (below_drew B900.out) hb)
          clear hb  hg hbox
          refine hK.out _ _ ⟨S_f1.out, (B_f1.out.cell (World.block_lt_of_cell? w _ X0.out)).trans X0.out, (B_f1.out.cell (World.block_lt_of_cell? w _ X1.out)).trans X1.out, (B_f1.out.cell (World.block_lt_of_cell? w _ X2.out)).trans X2.out, (B_f1.out.cell (World.block_lt_of_cell? w _ X3.out)).trans X3.out⟩ (fun hHeld => ?_)
          clear hK K
          refine norm_ (a' := ?_) ?_ ?_
          rotate_left
          · show Act.put _ (some 9) _ = _
            simp only [Act.put, List.setIfInBounds_toArray, List.set_cons_zero, List.set_cons_succ, i64_w, i32_w]
            rfl
          refine two_ (i := 5) (j := 10) (Ni := some 38) (Nj := some 8) #[true, true, true, true, true, true, false, false, false, false, false, true, false, false, false] #[true, true, true, true, true, false, false, false, false, false, true, true, false, false, false] rfl rfl rfl rfl (by kernel_rfl) (by decide) (by decide) (fun K hK => ?_) (fun K hK => ?_)
          · skip
            refine goes_ Try.func9 (by kernel_rfl) rfl #[.agg (SV s), .agg #[.int .i64 kd, .int .u64 k, .int .u64 v, .int .i64 z]] (by rfl) rfl rfl (by simp only [List.map_toArray, List.map_cons, List.map_nil]; rfl) ?_
            with_reducible refine (do_V s kd k v z _ HS.out m e2 d2 x2 er HDV.out).mono ?_
            rintro e_ wk2 ⟨rfl, hb⟩
            refine ⟨_, rfl, ?_⟩
            have S_f2 := Aside0.mk (blk_below S_f1.out hb)
            have U_f2 := Aside0.mk (blk_below U_f1.out hb)
            have AA_f2 := Aside0.mk (blk_below AA_f1.out hb)
            have R_f2 := Aside0.mk (Kd.R_below R_f1.out hb)
            have B_f2 := Aside0.mk (below_step B_f1.out hb)
            clear hb S_f1 U_f1 AA_f1 R_f1 B_f1
            refine hK.out _ _ ⟨S_f2.out, (B_f2.out.cell (World.block_lt_of_cell? w _ X0.out)).trans X0.out, (B_f2.out.cell (World.block_lt_of_cell? w _ X1.out)).trans X1.out, (B_f2.out.cell (World.block_lt_of_cell? w _ X2.out)).trans X2.out, (B_f2.out.cell (World.block_lt_of_cell? w _ X3.out)).trans X3.out⟩ (fun hHeld => ?_)
            clear hK K
            refine norm_ (a' := ?_) ?_ ?_
            rotate_left
            · show Act.put _ (some 38) _ = _
              simp only [Act.put, List.setIfInBounds_toArray, List.set_cons_zero, List.set_cons_succ, i64_w, i32_w]
              rfl
            refine pure_ (i := 6) (N := some 32) (v := ?_) (a' := ?_) #[true, true, true, true, true, true, true, false, false, false, false, true, false, false, false] rfl rfl (by kernel_rfl) (fun _ _ _ h => h) (Or.inl ⟨by rfl, ?_⟩) ?_ ?_
            rotate_left
            · intro w'
              go_simp
              with_reducible rfl
            rotate_left
            · simp only [Act.put, List.setIfInBounds_toArray, List.set_cons_zero, List.set_cons_succ, i64_w, i32_w]
              rfl
            refine pure_ (i := 7) (N := some 39) (v := ?_) (a' := ?_) #[true, true, true, true, true, true, true, true, false, false, false, true, false, false, false] rfl rfl (by kernel_rfl) (fun _ _ _ h => h) (Or.inl ⟨by rfl, ?_⟩) ?_ ?_
            rotate_left
            · intro w'
              go_simp
              with_reducible rfl
            rotate_left
            · simp only [Act.put, List.setIfInBounds_toArray, List.set_cons_zero, List.set_cons_succ, i64_w, i32_w]
              rfl
            refine pure_ (i := 8) (N := some 40) (v := ?_) (a' := ?_) #[true, true, true, true, true, true, true, true, true, false, false, true, false, false, false] rfl rfl (by kernel_rfl) (fun _ _ _ h => h) (Or.inl ⟨by rfl, ?_⟩) ?_ ?_
            rotate_left
            · intro w'
              go_simp
              with_reducible rfl
            rotate_left
            · simp only [Act.put, List.setIfInBounds_toArray, List.set_cons_zero, List.set_cons_succ, i64_w, i32_w]
              rfl
            refine pure_ (i := 9) (N := some 41) (v := ?_) (a' := ?_) #[true, true, true, true, true, true, true, true, true, true, false, true, false, false, false] rfl rfl (by kernel_rfl) (fun _ _ _ h => h) (Or.inl ⟨by rfl, ?_⟩) ?_ ?_
            rotate_left
            · intro w'
              go_simp
              with_reducible rfl
            rotate_left
            · simp only [Act.put, List.setIfInBounds_toArray, List.set_cons_zero, List.set_cons_succ, i64_w, i32_w]
              rfl
            refine one_ (i := 10) (N := some 8) #[true, true, true, true, true, true, true, true, true, true, true, true, false, false, false] rfl rfl (by kernel_rfl) (by decide) (fun K hK => ?_)
            refine box_step ?hg (N := 8) ?hd (cs := #[.int .i64 0, .int .u64 0, .int .u64 0, .int .u64 0, .int .u64 0, .int .u64 0, .int .u64 0, .int .u64 0, .int .u64 0, .int .u64 0, .int .u64 0, .int .u64 0, .int .u64 0, .int .u64 0, .int .u64 0, .int .u64 0, .int .u64 0, .int .u64 0, .int .u64 0, .int .u64 0, .int .u64 0, .int .u64 0, .int .u64 0, .int .u64 0, .int .u64 0, .int .u64 0, .int .u64 0, .int .u64 0, .int .u64 0, .int .u64 0, .int .u64 0, .int .u64 0, .int .u64 0]) (t := 29) ?hr ?_; (case hd => rfl); (case hg => rfl); (case hr => first | (go_simp; done) | (go_simp; rfl))
            intro gT hg wk3 hbox hb
            have L_T := Aside0.mk (show w.heap.size ≤ gT by rw [hg]; exact B_f2.out.size)
            have NE_S_T := Aside0.mk (show w2.heap.size ≠ gT by have := blk_lt S_f2.out; omega)
            have NE_U_T := Aside0.mk (show w_4.heap.size ≠ gT by have := blk_lt U_f2.out; omega)
            have NE_AA_T := Aside0.mk (show gAA ≠ gT by have := blk_lt AA_f2.out; omega)
            have S_f3 := Aside0.mk (blk_below S_f2.out hb)
            have U_f3 := Aside0.mk (blk_below U_f2.out hb)
            have AA_f3 := Aside0.mk (blk_below AA_f2.out hb)
            have T_f3 := Aside0.mk hbox
            have R_f3 := Aside0.mk (Kd.R_below R_f2.out hb)
            have B_f3 := Aside0.mk (below_step B_f2.out hb)
            clear hb S_f2 U_f2 AA_f2 R_f2 B_f2 hg hbox
            refine hK.out _ _ ⟨S_f3.out, (B_f3.out.cell (World.block_lt_of_cell? w _ X0.out)).trans X0.out, (B_f3.out.cell (World.block_lt_of_cell? w _ X1.out)).trans X1.out, (B_f3.out.cell (World.block_lt_of_cell? w _ X2.out)).trans X2.out, (B_f3.out.cell (World.block_lt_of_cell? w _ X3.out)).trans X3.out⟩ (fun hHeld => ?_)
            clear hK K
            refine norm_ (a' := ?_) ?_ ?_
            rotate_left
            · show Act.put _ (some 8) _ = _
              simp only [Act.put, List.setIfInBounds_toArray, List.set_cons_zero, List.set_cons_succ, i64_w, i32_w]
              rfl
            exact norm_ (by simp only [putAll, Act.put, List.setIfInBounds_toArray, List.set_cons_zero, List.set_cons_succ]) (hCont (gT, gAA) _ ⟨hHeld, S_f3.out, U_f3.out, T_f3.out, AA_f3.out, L_T.out, L_AA.out, NE_S_T.out, NE_U_T.out, NE_S_AA.out, NE_U_AA.out, (Ne.symm NE_AA_T.out), R_f3.out, B_f3.out⟩)
          · skip
            refine box_step ?hg (N := 8) ?hd (cs := #[.int .i64 0, .int .u64 0, .int .u64 0, .int .u64 0, .int .u64 0, .int .u64 0, .int .u64 0, .int .u64 0, .int .u64 0, .int .u64 0, .int .u64 0, .int .u64 0, .int .u64 0, .int .u64 0, .int .u64 0, .int .u64 0, .int .u64 0, .int .u64 0, .int .u64 0, .int .u64 0, .int .u64 0, .int .u64 0, .int .u64 0, .int .u64 0, .int .u64 0, .int .u64 0, .int .u64 0, .int .u64 0, .int .u64 0, .int .u64 0, .int .u64 0, .int .u64 0, .int .u64 0]) (t := 29) ?hr ?_; (case hd => rfl); (case hg => rfl); (case hr => first | (go_simp; done) | (go_simp; rfl))
            intro gT hg wk2 hbox hb
            have L_T := Aside0.mk (show w.heap.size ≤ gT by rw [hg]; exact B_f1.out.size)
            have NE_S_T := Aside0.mk (show w2.heap.size ≠ gT by have := blk_lt S_f1.out; omega)
            have NE_U_T := Aside0.mk (show w_4.heap.size ≠ gT by have := blk_lt U_f1.out; omega)
            have NE_AA_T := Aside0.mk (show gAA ≠ gT by have := blk_lt AA_f1.out; omega)
            have S_f2 := Aside0.mk (blk_below S_f1.out hb)
            have U_f2 := Aside0.mk (blk_below U_f1.out hb)
            have AA_f2 := Aside0.mk (blk_below AA_f1.out hb)
            have T_f2 := Aside0.mk hbox
            have R_f2 := Aside0.mk (Kd.R_below R_f1.out hb)
            have B_f2 := Aside0.mk (below_step B_f1.out hb)
            clear hb S_f1 U_f1 AA_f1 R_f1 B_f1 hg hbox
            refine hK.out _ _ ⟨S_f2.out, (B_f2.out.cell (World.block_lt_of_cell? w _ X0.out)).trans X0.out, (B_f2.out.cell (World.block_lt_of_cell? w _ X1.out)).trans X1.out, (B_f2.out.cell (World.block_lt_of_cell? w _ X2.out)).trans X2.out, (B_f2.out.cell (World.block_lt_of_cell? w _ X3.out)).trans X3.out⟩ (fun hHeld => ?_)
            clear hK K
            refine norm_ (a' := ?_) ?_ ?_
            rotate_left
            · show Act.put _ (some 8) _ = _
              simp only [Act.put, List.setIfInBounds_toArray, List.set_cons_zero, List.set_cons_succ, i64_w, i32_w]
              rfl
            refine one_ (i := 5) (N := some 38) #[true, true, true, true, true, true, false, false, false, false, true, true, false, false, false] rfl rfl (by kernel_rfl) (by decide) (fun K hK => ?_)
            refine goes_ Try.func9 (by kernel_rfl) rfl #[.agg (SV s), .agg #[.int .i64 kd, .int .u64 k, .int .u64 v, .int .i64 z]] (by rfl) rfl rfl (by simp only [List.map_toArray, List.map_cons, List.map_nil]; rfl) ?_
            with_reducible refine (do_V s kd k v z _ HS.out m e2 d2 x2 er HDV.out).mono ?_
            rintro e_ wk3 ⟨rfl, hb⟩
            refine ⟨_, rfl, ?_⟩
            have S_f3 := Aside0.mk (blk_below S_f2.out hb)
            have U_f3 := Aside0.mk (blk_below U_f2.out hb)
            have AA_f3 := Aside0.mk (blk_below AA_f2.out hb)
            have T_f3 := Aside0.mk (blk_below T_f2.out hb)
            have R_f3 := Aside0.mk (Kd.R_below R_f2.out hb)
            have B_f3 := Aside0.mk (below_step B_f2.out hb)
            clear hb S_f2 U_f2 AA_f2 T_f2 R_f2 B_f2
            refine hK.out _ _ ⟨S_f3.out, (B_f3.out.cell (World.block_lt_of_cell? w _ X0.out)).trans X0.out, (B_f3.out.cell (World.block_lt_of_cell? w _ X1.out)).trans X1.out, (B_f3.out.cell (World.block_lt_of_cell? w _ X2.out)).trans X2.out, (B_f3.out.cell (World.block_lt_of_cell? w _ X3.out)).trans X3.out⟩ (fun hHeld => ?_)
            clear hK K
            refine norm_ (a' := ?_) ?_ ?_
            rotate_left
            · show Act.put _ (some 38) _ = _
              simp only [Act.put, List.setIfInBounds_toArray, List.set_cons_zero, List.set_cons_succ, i64_w, i32_w]
              rfl
            refine pure_ (i := 6) (N := some 32) (v := ?_) (a' := ?_) #[true, true, true, true, true, true, true, false, false, false, true, true, false, false, false] rfl rfl (by kernel_rfl) (fun _ _ _ h => h) (Or.inl ⟨by rfl, ?_⟩) ?_ ?_
            rotate_left
            · intro w'
              go_simp
              with_reducible rfl
            rotate_left
            · simp only [Act.put, List.setIfInBounds_toArray, List.set_cons_zero, List.set_cons_succ, i64_w, i32_w]
              rfl
            refine pure_ (i := 7) (N := some 39) (v := ?_) (a' := ?_) #[true, true, true, true, true, true, true, true, false, false, true, true, false, false, false] rfl rfl (by kernel_rfl) (fun _ _ _ h => h) (Or.inl ⟨by rfl, ?_⟩) ?_ ?_
            rotate_left
            · intro w'
              go_simp
              with_reducible rfl
            rotate_left
            · simp only [Act.put, List.setIfInBounds_toArray, List.set_cons_zero, List.set_cons_succ, i64_w, i32_w]
              rfl
            refine pure_ (i := 8) (N := some 40) (v := ?_) (a' := ?_) #[true, true, true, true, true, true, true, true, true, false, true, true, false, false, false] rfl rfl (by kernel_rfl) (fun _ _ _ h => h) (Or.inl ⟨by rfl, ?_⟩) ?_ ?_
            rotate_left
            · intro w'
              go_simp
              with_reducible rfl
            rotate_left
            · simp only [Act.put, List.setIfInBounds_toArray, List.set_cons_zero, List.set_cons_succ, i64_w, i32_w]
              rfl
            refine pure_ (i := 9) (N := some 41) (v := ?_) (a' := ?_) #[true, true, true, true, true, true, true, true, true, true, true, true, false, false, false] rfl rfl (by kernel_rfl) (fun _ _ _ h => h) (Or.inl ⟨by rfl, ?_⟩) ?_ ?_
            rotate_left
            · intro w'
              go_simp
              with_reducible rfl
            rotate_left
            · simp only [Act.put, List.setIfInBounds_toArray, List.set_cons_zero, List.set_cons_succ, i64_w, i32_w]
              rfl
            exact norm_ (by simp only [putAll, Act.put, List.setIfInBounds_toArray, List.set_cons_zero, List.set_cons_succ]) (hCont (gT, gAA) _ ⟨hHeld, S_f3.out, U_f3.out, T_f3.out, AA_f3.out, L_T.out, L_AA.out, NE_S_T.out, NE_U_T.out, NE_S_AA.out, NE_U_AA.out, (Ne.symm NE_AA_T.out), R_f3.out, B_f3.out⟩)
      rintro ⟨gT, gAA⟩ wF ⟨hHeld, f0_, f1_, f2_, f3_, f4_, f5_, f6_, f7_, f8_, f9_, f10_, f11_, f12_⟩
      have S_901 := Aside0.mk (show wF.heap[w2.heap.size]? = some (.cells (SV s) 29 (0, 0)) from f0_)
      have U_901 := Aside0.mk (show wF.heap[w_4.heap.size]? = some (.cells (#[.slice A1 u.length c1]) 32 (0, 0)) from f1_)
      have T_901 := Aside0.mk (show wF.heap[gT]? = some (.cells #[.int .i64 0, .int .u64 0, .int .u64 0, .int .u64 0, .int .u64 0, .int .u64 0, .int .u64 0, .int .u64 0, .int .u64 0, .int .u64 0, .int .u64 0, .int .u64 0, .int .u64 0, .int .u64 0, .int .u64 0, .int .u64 0, .int .u64 0, .int .u64 0, .int .u64 0, .int .u64 0, .int .u64 0, .int .u64 0, .int .u64 0, .int .u64 0, .int .u64 0, .int .u64 0, .int .u64 0, .int .u64 0, .int .u64 0, .int .u64 0, .int .u64 0, .int .u64 0, .int .u64 0] 29 (0, 0)) from f2_)
      have AA_901 := Aside0.mk (show wF.heap[gAA]? = some (.cells #[.int .i64 0, .bool false, .int .u64 0] 35 (0, 0)) from f3_)
      have L_T := Aside0.mk (show w.heap.size ≤ gT from f4_)
      have L_AA := Aside0.mk (show w.heap.size ≤ gAA from f5_)
      have NE_S_T := Aside0.mk (show w2.heap.size ≠ gT from f6_)
      have NE_U_T := Aside0.mk (show w_4.heap.size ≠ gT from f7_)
      have NE_S_AA := Aside0.mk (show w2.heap.size ≠ gAA from f8_)
      have NE_U_AA := Aside0.mk (show w_4.heap.size ≠ gAA from f9_)
      have NE_T_AA := Aside0.mk (show gT ≠ gAA from f10_)
      have R_901 := Aside0.mk (show Kd.R k57 57 wF w.heap.size (fun _ => True) (.slice A1 u.length c1) u from f11_)
      have B901 := Aside0.mk (show Below w.heap.size w wF from f12_)
      clear f0_ f1_ f2_ f3_ f4_ f5_ f6_ f7_ f8_ f9_ f10_ f11_ f12_
      refine norm_ (a' := ?_) ?_ ?_
      rotate_left
      · simp only [putAll, Act.put, List.setIfInBounds_toArray, List.set_cons_zero, List.set_cons_succ]
        rfl
      refine one_ (i := 12) (N := none) #[true, true, true, true, true, true, true, true, true, true, true, true, true, false, false] rfl rfl (by kernel_rfl) (by decide) (fun K hK => ?_)
      refine skip_whole (w := w) (B := w.heap.size) 29 (.tmp 8) (.tmp 39) (by rfl) rfl rfl (g := gT) (cs := SV m) ?_ (.agg (SV m)) ?_ rfl (stot _) (SV_one _) (T_901.out) (by first | (rw [SV_size]; done) | (rw [SV_size, SV_size]; done) | (rw [SV_size]; rfl)) L_T.out (B901.out) ?_
      · rfl
      · rfl
      intro w5 h1 h2 h3 h4
      have R_902 := Aside0.mk (row_far R_901.out T_901.out (by decide) h3)
      have S_903 := Aside0.mk ((h3 _ NE_S_T.out).trans S_901.out)
      have U_904 := Aside0.mk ((h3 _ NE_U_T.out).trans U_901.out)
      have T_905 := Aside0.mk (h1)
      have AA_906 := Aside0.mk ((h3 _ (Ne.symm NE_T_AA.out)).trans AA_901.out)
      have B907 := Aside0.mk (h2)
      clear h1 h2 h3 h4 R_901 S_901 U_901 T_901 AA_901 B901
      refine hK.out _ _ ⟨S_903.out, (B907.out.cell (World.block_lt_of_cell? w _ X0.out)).trans X0.out, (B907.out.cell (World.block_lt_of_cell? w _ X1.out)).trans X1.out, (B907.out.cell (World.block_lt_of_cell? w _ X2.out)).trans X2.out, (B907.out.cell (World.block_lt_of_cell? w _ X3.out)).trans X3.out⟩ (fun hHeld => ?_)
      clear hK K
      refine last_ (i := 13) (N := none) #[true, true, true, true, true, true, true, true, true, true, true, true, true, true, false] rfl rfl (by kernel_rfl) (by decide) (fun K hK => ?_)
      refine skip_whole (w := w) (B := w.heap.size) 35 (.tmp 9) (.tmp 40) (by rfl) rfl rfl (g := gAA) (cs := #[.int .i64 e2, .bool d2, .int .u64 x2]) ?_ (.agg (#[.int .i64 e2, .bool d2, .int .u64 x2])) ?_ rfl (by kernel_rfl) (by simp [Value.oneCell']) (AA_906.out) (rfl) L_AA.out (B907.out) ?_
      · rfl
      · rfl
      intro w6 h1 h2 h3 h4
      have R_908 := Aside0.mk (row_far R_902.out AA_906.out (by decide) h3)
      have S_909 := Aside0.mk ((h3 _ NE_S_AA.out).trans S_903.out)
      have U_910 := Aside0.mk ((h3 _ NE_U_AA.out).trans U_904.out)
      have T_911 := Aside0.mk ((h3 _ NE_T_AA.out).trans T_905.out)
      have AA_912 := Aside0.mk (h1)
      have B913 := Aside0.mk (h2)
      clear h1 h2 h3 h4 R_902 S_903 U_904 T_905 AA_906 B907
      refine hK.out _ _ ?_
      clear hK K
      refine pure_ (i := 14) (N := some 10) (v := ?_) (a' := ?_) #[true, true, true, true, true, true, true, true, true, true, true, true, true, true, true] rfl rfl (by kernel_rfl) (fun _ _ _ h => h) (Or.inl ⟨by rfl, ?_⟩) ?_ ?_
      rotate_left
      · intro w'
        go_simp
        with_reducible rfl
      rotate_left
      · simp only [Act.put, List.setIfInBounds_toArray, List.set_cons_zero, List.set_cons_succ, i64_w, i32_w]
        rfl
      refine done_ (by kernel_rfl) ?_
      go_wp2_with fail
      refine start_ (n := 15) (S := fun w' => w'.heap[w_4.heap.size]? = some (.cells (#[.slice A1 u.length c1]) 32 (0, 0)) ∧ w'.cell? (ad.add (i.toNat * 4)) = some (.int .i64 kd) ∧ w'.cell? ⟨(ad.add (i.toNat * 4)).block, (ad.add (i.toNat * 4)).off + 1, none⟩ = some (.int .u64 k) ∧ w'.cell? ⟨(ad.add (i.toNat * 4)).block, (ad.add (i.toNat * 4)).off + 2, none⟩ = some (.int .u64 v) ∧ w'.cell? ⟨(ad.add (i.toNat * 4)).block, (ad.add (i.toNat * 4)).off + 3, none⟩ = some (.int .i64 z)) (ds := [13]) #[false, false, false, false, false, false, false, false, false, false, false, false, false, false, false] (by kernel_rfl) rfl rfl ⟨blk_drew U_910.out, ((below_drew B913.out).cell (World.block_lt_of_cell? w _ X0.out)).trans X0.out, ((below_drew B913.out).cell (World.block_lt_of_cell? w _ X1.out)).trans X1.out, ((below_drew B913.out).cell (World.block_lt_of_cell? w _ X2.out)).trans X2.out, ((below_drew B913.out).cell (World.block_lt_of_cell? w _ X3.out)).trans X3.out⟩ (fun hHeld => ?_)
      refine pure_ (i := 1) (N := some 44) (v := ?_) (a' := ?_) #[false, true, false, false, false, false, false, false, false, false, false, false, false, false, false] rfl rfl (by kernel_rfl) (fun _ _ _ h => h) (Or.inl ⟨by rfl, ?_⟩) ?_ ?_
      rotate_left
      · intro w'
        go_simp
        with_reducible rfl
      rotate_left
      · simp only [Act.put, List.setIfInBounds_toArray, List.set_cons_zero, List.set_cons_succ, i64_w, i32_w]
        rfl
      refine pure_ (i := 2) (N := some 45) (v := ?_) (a' := ?_) #[false, true, true, false, false, false, false, false, false, false, false, false, false, false, false] rfl rfl (by kernel_rfl) (fun _ _ _ h => h) (Or.inl ⟨by rfl, ?_⟩) ?_ ?_
      rotate_left
      · intro w'
        go_simp
        with_reducible rfl
      rotate_left
      · simp only [Act.put, List.setIfInBounds_toArray, List.set_cons_zero, List.set_cons_succ, i64_w, i32_w]
        rfl
      refine pure_ (i := 3) (N := some 46) (v := ?_) (a' := ?_) #[false, true, true, true, false, false, false, false, false, false, false, false, false, false, false] rfl rfl (by kernel_rfl) (fun _ _ _ h => h) (Or.inl ⟨by rfl, ?_⟩) ?_ ?_
      rotate_left
      · intro w'
        go_simp
        with_reducible rfl
      rotate_left
      · simp only [Act.put, List.setIfInBounds_toArray, List.set_cons_zero, List.set_cons_succ, i64_w, i32_w]
        rfl
      refine take_ (i := 0) (N := some 43) (v := ?_) (a' := ?_) #[true, true, true, true, false, false, false, false, false, false, false, false, false, false, false] rfl rfl (by kernel_rfl) (fun _ _ _ h => h) (Or.inl ⟨by rfl, ?_⟩) hHeld ?_ ?_
      rotate_left
      · rintro w' ⟨s0, s1, s2, s3, s4⟩
        refine exec_load_row 32 (.tmp 6) ?_ _ ?_ 32 (#[.slice A1 u.length c1]) (0, 0) _ s0 Try.underlying32 rfl (by kernel_rfl) <;> rfl
      rotate_left
      · simp only [Act.put, List.setIfInBounds_toArray, List.set_cons_zero, List.set_cons_succ, i64_w, i32_w]
        rfl
      refine take_ (i := 4) (N := some 47) (v := ?_) (a' := ?_) #[true, true, true, true, true, false, false, false, false, false, false, false, false, false, false] rfl rfl (by kernel_rfl) (fun _ _ _ h => h) (Or.inl ⟨by rfl, ?_⟩) hHeld ?_ ?_
      rotate_left
      · rintro w' ⟨s0, s1, s2, s3, s4⟩
        go_simp
        with_reducible rfl
      rotate_left
      · simp only [Act.put, List.setIfInBounds_toArray, List.set_cons_zero, List.set_cons_succ, i64_w, i32_w]
        rfl
      refine join_ (σ := Nat × Nat × Option Addr × Nat) 3 #[true, true, true, true, true, true, true, true, true, true, true, true, false, false, false] (fun s_ => [(48, .tuple #[.agg #[.slice s_.2.2.1 mu.length s_.2.2.2], .agg #[.int .i64 e2, .bool d2, .int .u64 x2], .int .i64 er]), (11, .pointer (some ⟨s_.1, 0, none⟩)), (12, .pointer (some ⟨s_.2.1, 0, none⟩)), (42, .tuple #[.agg #[.slice s_.2.2.1 mu.length s_.2.2.2], .agg #[.int .i64 e2, .bool d2, .int .u64 x2], .int .i64 er]), (49, .agg #[.slice s_.2.2.1 mu.length s_.2.2.2]), (50, .agg #[.int .i64 e2, .bool d2, .int .u64 x2]), (51, .int .i64 er)]) (fun s_ w' => (w'.heap[w_4.heap.size]? = some (.cells (#[.slice A1 u.length c1]) 32 (0, 0)) ∧ w'.cell? (ad.add (i.toNat * 4)) = some (.int .i64 kd) ∧ w'.cell? ⟨(ad.add (i.toNat * 4)).block, (ad.add (i.toNat * 4)).off + 1, none⟩ = some (.int .u64 k) ∧ w'.cell? ⟨(ad.add (i.toNat * 4)).block, (ad.add (i.toNat * 4)).off + 2, none⟩ = some (.int .u64 v) ∧ w'.cell? ⟨(ad.add (i.toNat * 4)).block, (ad.add (i.toNat * 4)).off + 3, none⟩ = some (.int .i64 z)) ∧ w'.heap[w2.heap.size]? = some (.cells (SV s) 29 (0, 0)) ∧ w'.heap[w_4.heap.size]? = some (.cells (#[.slice A1 u.length c1]) 32 (0, 0)) ∧ w'.heap[gT]? = some (.cells (SV m) 29 (0, 0)) ∧ w'.heap[gAA]? = some (.cells (#[.int .i64 e2, .bool d2, .int .u64 x2]) 35 (0, 0)) ∧ w'.heap[s_.1]? = some (.cells #[.slice none 0 0] 32 (0, 0)) ∧ w'.heap[s_.2.1]? = some (.cells #[.int .i64 0, .bool false, .int .u64 0] 35 (0, 0)) ∧ w.heap.size ≤ s_.1 ∧ w.heap.size ≤ s_.2.1 ∧ w2.heap.size ≠ s_.1 ∧ w_4.heap.size ≠ s_.1 ∧ gT ≠ s_.1 ∧ gAA ≠ s_.1 ∧ w2.heap.size ≠ s_.2.1 ∧ w_4.heap.size ≠ s_.2.1 ∧ gT ≠ s_.2.1 ∧ gAA ≠ s_.2.1 ∧ s_.1 ≠ s_.2.1 ∧ Kd.R k57 57 w' w.heap.size (fun _ => True) (.slice A1 u.length c1) u ∧ Kd.R k57 57 w' w.heap.size (fun _ => True) (.slice s_.2.2.1 mu.length s_.2.2.2) mu ∧ mu.length ≤ s_.2.2.2 ∧ Below w.heap.size w w') ?_ ?_
      rotate_left
      · intro hCont
        refine three_ (i := 5) (j := 10) (k := 11) (Ni := some 48) (Nj := some 11) (Nk := some 12) #[true, true, true, true, true, true, false, false, false, false, false, false, false, false, false] #[true, true, true, true, true, false, false, false, false, false, true, false, false, false, false] #[true, true, true, true, true, false, false, false, false, false, false, true, false, false, false] rfl rfl rfl rfl rfl rfl (by kernel_rfl) (by decide) (by decide) (by decide) (fun K hK => ?_) (fun K hK => ?_) (fun K hK => ?_)
        · skip
          refine goes_ Try.func10 (by kernel_rfl) rfl #[.agg #[.slice A1 u.length c1], .agg #[.int .i64 kd, .int .u64 k, .int .u64 v, .int .i64 z]] (by rfl) rfl rfl (by simp only [List.map_toArray, List.map_cons, List.map_nil]; rfl) ?_
          with_reducible refine (do_U u A1 c1 kd k v z w.heap.size _ (Kd.R_drew R_908.out) HL.out.2 (below_drew B913.out).size HL.out.1 mu e2 d2 x2 er HDU.out).mono ?_
          rintro e_ wk1 ⟨v0, rfl, hR, hb⟩
          obtain ⟨A3, c3, rfl, hc3, -⟩ := Kd.R_reads hR
          refine ⟨_, rfl, ?_⟩
          have HC3 := Aside0.mk hc3
          have R3_f1 := Aside0.mk hR
          clear hR hc3
          have S_f1 := Aside0.mk (blk_below (blk_drew S_909.out) hb)
          have U_f1 := Aside0.mk (blk_below (blk_drew U_910.out) hb)
          have T_f1 := Aside0.mk (blk_below (blk_drew T_911.out) hb)
          have AA_f1 := Aside0.mk (blk_below (blk_drew AA_912.out) hb)
          have R_f1 := Aside0.mk (Kd.R_below (Kd.R_drew R_908.out) hb)
          have B_f1 := Aside0.mk (below_step (below_drew B913.out) hb)
          clear hb 
          refine hK.out _ _ ⟨U_f1.out, (B_f1.out.cell (World.block_lt_of_cell? w _ X0.out)).trans X0.out, (B_f1.out.cell (World.block_lt_of_cell? w _ X1.out)).trans X1.out, (B_f1.out.cell (World.block_lt_of_cell? w _ X2.out)).trans X2.out, (B_f1.out.cell (World.block_lt_of_cell? w _ X3.out)).trans X3.out⟩ (fun hHeld => ?_)
          clear hK K
          refine norm_ (a' := ?_) ?_ ?_
          rotate_left
          · show Act.put _ (some 48) _ = _
            simp only [Act.put, List.setIfInBounds_toArray, List.set_cons_zero, List.set_cons_succ, i64_w, i32_w]
            rfl
          refine pure_ (i := 6) (N := some 42) (v := ?_) (a' := ?_) #[true, true, true, true, true, true, true, false, false, false, false, false, false, false, false] rfl rfl (by kernel_rfl) (fun _ _ _ h => h) (Or.inl ⟨by rfl, ?_⟩) ?_ ?_
          rotate_left
          · intro w'
            go_simp
            with_reducible rfl
          rotate_left
          · simp only [Act.put, List.setIfInBounds_toArray, List.set_cons_zero, List.set_cons_succ, i64_w, i32_w]
            rfl
          refine pure_ (i := 7) (N := some 49) (v := ?_) (a' := ?_) #[true, true, true, true, true, true, true, true, false, false, false, false, false, false, false] rfl rfl (by kernel_rfl) (fun _ _ _ h => h) (Or.inl ⟨by rfl, ?_⟩) ?_ ?_
          rotate_left
          · intro w'
            go_simp
            with_reducible rfl
          rotate_left
          · simp only [Act.put, List.setIfInBounds_toArray, List.set_cons_zero, List.set_cons_succ, i64_w, i32_w]
            rfl
          refine pure_ (i := 8) (N := some 50) (v := ?_) (a' := ?_) #[true, true, true, true, true, true, true, true, true, false, false, false, false, false, false] rfl rfl (by kernel_rfl) (fun _ _ _ h => h) (Or.inl ⟨by rfl, ?_⟩) ?_ ?_
          rotate_left
          · intro w'
            go_simp
            with_reducible rfl
          rotate_left
          · simp only [Act.put, List.setIfInBounds_toArray, List.set_cons_zero, List.set_cons_succ, i64_w, i32_w]
            rfl
          refine pure_ (i := 9) (N := some 51) (v := ?_) (a' := ?_) #[true, true, true, true, true, true, true, true, true, true, false, false, false, false, false] rfl rfl (by kernel_rfl) (fun _ _ _ h => h) (Or.inl ⟨by rfl, ?_⟩) ?_ ?_
          rotate_left
          · intro w'
            go_simp
            with_reducible rfl
          rotate_left
          · simp only [Act.put, List.setIfInBounds_toArray, List.set_cons_zero, List.set_cons_succ, i64_w, i32_w]
            rfl
          refine two_ (i := 10) (j := 11) (Ni := some 11) (Nj := some 12) #[true, true, true, true, true, true, true, true, true, true, true, false, false, false, false] #[true, true, true, true, true, true, true, true, true, true, false, true, false, false, false] rfl rfl rfl rfl (by kernel_rfl) (by decide) (by decide) (fun K hK => ?_) (fun K hK => ?_)
          · skip
            refine box_step ?hg (N := 11) ?hd (cs := #[.slice none 0 0]) (t := 32) ?hr ?_; (case hd => rfl); (case hg => rfl); (case hr => first | (go_simp; done) | (go_simp; rfl))
            intro gV hg wk2 hbox hb
            have L_V := Aside0.mk (show w.heap.size ≤ gV by rw [hg]; exact B_f1.out.size)
            have NE_S_V := Aside0.mk (show w2.heap.size ≠ gV by have := blk_lt S_f1.out; omega)
            have NE_U_V := Aside0.mk (show w_4.heap.size ≠ gV by have := blk_lt U_f1.out; omega)
            have NE_T_V := Aside0.mk (show gT ≠ gV by have := blk_lt T_f1.out; omega)
            have NE_AA_V := Aside0.mk (show gAA ≠ gV by have := blk_lt AA_f1.out; omega)
            have S_f2 := Aside0.mk (blk_below S_f1.out hb)
            have U_f2 := Aside0.mk (blk_below U_f1.out hb)
            have T_f2 := Aside0.mk (blk_below T_f1.out hb)
            have AA_f2 := Aside0.mk (blk_below AA_f1.out hb)
            have V_f2 := Aside0.mk hbox
            have R_f2 := Aside0.mk (Kd.R_below R_f1.out hb)
            have R3_f2 := Aside0.mk (Kd.R_below R3_f1.out hb)
            have B_f2 := Aside0.mk (below_step B_f1.out hb)
            clear hb S_f1 U_f1 T_f1 AA_f1 R_f1 R3_f1 B_f1 hg hbox
            refine hK.out _ _ ⟨U_f2.out, (B_f2.out.cell (World.block_lt_of_cell? w _ X0.out)).trans X0.out, (B_f2.out.cell (World.block_lt_of_cell? w _ X1.out)).trans X1.out, (B_f2.out.cell (World.block_lt_of_cell? w _ X2.out)).trans X2.out, (B_f2.out.cell (World.block_lt_of_cell? w _ X3.out)).trans X3.out⟩ (fun hHeld => ?_)
            clear hK K
            refine norm_ (a' := ?_) ?_ ?_
            rotate_left
            · show Act.put _ (some 11) _ = _
              simp only [Act.put, List.setIfInBounds_toArray, List.set_cons_zero, List.set_cons_succ, i64_w, i32_w]
              rfl
            refine one_ (i := 11) (N := some 12) #[true, true, true, true, true, true, true, true, true, true, true, true, false, false, false] rfl rfl (by kernel_rfl) (by decide) (fun K hK => ?_)
            refine box_step ?hg (N := 12) ?hd (cs := #[.int .i64 0, .bool false, .int .u64 0]) (t := 35) ?hr ?_; (case hd => rfl); (case hg => rfl); (case hr => first | (go_simp; done) | (go_simp; rfl))
            intro gBB hg wk3 hbox hb
            have L_BB := Aside0.mk (show w.heap.size ≤ gBB by rw [hg]; exact B_f2.out.size)
            have NE_S_BB := Aside0.mk (show w2.heap.size ≠ gBB by have := blk_lt S_f2.out; omega)
            have NE_U_BB := Aside0.mk (show w_4.heap.size ≠ gBB by have := blk_lt U_f2.out; omega)
            have NE_T_BB := Aside0.mk (show gT ≠ gBB by have := blk_lt T_f2.out; omega)
            have NE_AA_BB := Aside0.mk (show gAA ≠ gBB by have := blk_lt AA_f2.out; omega)
            have NE_V_BB := Aside0.mk (show gV ≠ gBB by have := blk_lt V_f2.out; omega)
            have S_f3 := Aside0.mk (blk_below S_f2.out hb)
            have U_f3 := Aside0.mk (blk_below U_f2.out hb)
            have T_f3 := Aside0.mk (blk_below T_f2.out hb)
            have AA_f3 := Aside0.mk (blk_below AA_f2.out hb)
            have V_f3 := Aside0.mk (blk_below V_f2.out hb)
            have BB_f3 := Aside0.mk hbox
            have R_f3 := Aside0.mk (Kd.R_below R_f2.out hb)
            have R3_f3 := Aside0.mk (Kd.R_below R3_f2.out hb)
            have B_f3 := Aside0.mk (below_step B_f2.out hb)
            clear hb S_f2 U_f2 T_f2 AA_f2 V_f2 R_f2 R3_f2 B_f2 hg hbox
            refine hK.out _ _ ⟨U_f3.out, (B_f3.out.cell (World.block_lt_of_cell? w _ X0.out)).trans X0.out, (B_f3.out.cell (World.block_lt_of_cell? w _ X1.out)).trans X1.out, (B_f3.out.cell (World.block_lt_of_cell? w _ X2.out)).trans X2.out, (B_f3.out.cell (World.block_lt_of_cell? w _ X3.out)).trans X3.out⟩ (fun hHeld => ?_)
            clear hK K
            refine norm_ (a' := ?_) ?_ ?_
            rotate_left
            · show Act.put _ (some 12) _ = _
              simp only [Act.put, List.setIfInBounds_toArray, List.set_cons_zero, List.set_cons_succ, i64_w, i32_w]
              rfl
            exact norm_ (by simp only [putAll, Act.put, List.setIfInBounds_toArray, List.set_cons_zero, List.set_cons_succ]) (hCont (gV, gBB, A3, c3) _ ⟨hHeld, S_f3.out, U_f3.out, T_f3.out, AA_f3.out, V_f3.out, BB_f3.out, L_V.out, L_BB.out, NE_S_V.out, NE_U_V.out, NE_T_V.out, NE_AA_V.out, NE_S_BB.out, NE_U_BB.out, NE_T_BB.out, NE_AA_BB.out, NE_V_BB.out, R_f3.out, R3_f3.out, HC3.out, B_f3.out⟩)
          · skip
            refine box_step ?hg (N := 12) ?hd (cs := #[.int .i64 0, .bool false, .int .u64 0]) (t := 35) ?hr ?_; (case hd => rfl); (case hg => rfl); (case hr => first | (go_simp; done) | (go_simp; rfl))
            intro gBB hg wk2 hbox hb
            have L_BB := Aside0.mk (show w.heap.size ≤ gBB by rw [hg]; exact B_f1.out.size)
            have NE_S_BB := Aside0.mk (show w2.heap.size ≠ gBB by have := blk_lt S_f1.out; omega)
            have NE_U_BB := Aside0.mk (show w_4.heap.size ≠ gBB by have := blk_lt U_f1.out; omega)
            have NE_T_BB := Aside0.mk (show gT ≠ gBB by have := blk_lt T_f1.out; omega)
            have NE_AA_BB := Aside0.mk (show gAA ≠ gBB by have := blk_lt AA_f1.out; omega)
            have S_f2 := Aside0.mk (blk_below S_f1.out hb)
            have U_f2 := Aside0.mk (blk_below U_f1.out hb)
            have T_f2 := Aside0.mk (blk_below T_f1.out hb)
            have AA_f2 := Aside0.mk (blk_below AA_f1.out hb)
            have BB_f2 := Aside0.mk hbox
            have R_f2 := Aside0.mk (Kd.R_below R_f1.out hb)
            have R3_f2 := Aside0.mk (Kd.R_below R3_f1.out hb)
            have B_f2 := Aside0.mk (below_step B_f1.out hb)
            clear hb S_f1 U_f1 T_f1 AA_f1 R_f1 R3_f1 B_f1 hg hbox
            refine hK.out _ _ ⟨U_f2.out, (B_f2.out.cell (World.block_lt_of_cell? w _ X0.out)).trans X0.out, (B_f2.out.cell (World.block_lt_of_cell? w _ X1.out)).trans X1.out, (B_f2.out.cell (World.block_lt_of_cell? w _ X2.out)).trans X2.out, (B_f2.out.cell (World.block_lt_of_cell? w _ X3.out)).trans X3.out⟩ (fun hHeld => ?_)
            clear hK K
            refine norm_ (a' := ?_) ?_ ?_
            rotate_left
            · show Act.put _ (some 12) _ = _
              simp only [Act.put, List.setIfInBounds_toArray, List.set_cons_zero, List.set_cons_succ, i64_w, i32_w]
              rfl
            refine one_ (i := 10) (N := some 11) #[true, true, true, true, true, true, true, true, true, true, true, true, false, false, false] rfl rfl (by kernel_rfl) (by decide) (fun K hK => ?_)
            refine box_step ?hg (N := 11) ?hd (cs := #[.slice none 0 0]) (t := 32) ?hr ?_; (case hd => rfl); (case hg => rfl); (case hr => first | (go_simp; done) | (go_simp; rfl))
            intro gV hg wk3 hbox hb
            have L_V := Aside0.mk (show w.heap.size ≤ gV by rw [hg]; exact B_f2.out.size)
            have NE_S_V := Aside0.mk (show w2.heap.size ≠ gV by have := blk_lt S_f2.out; omega)
            have NE_U_V := Aside0.mk (show w_4.heap.size ≠ gV by have := blk_lt U_f2.out; omega)
            have NE_T_V := Aside0.mk (show gT ≠ gV by have := blk_lt T_f2.out; omega)
            have NE_AA_V := Aside0.mk (show gAA ≠ gV by have := blk_lt AA_f2.out; omega)
            have NE_BB_V := Aside0.mk (show gBB ≠ gV by have := blk_lt BB_f2.out; omega)
            have S_f3 := Aside0.mk (blk_below S_f2.out hb)
            have U_f3 := Aside0.mk (blk_below U_f2.out hb)
            have T_f3 := Aside0.mk (blk_below T_f2.out hb)
            have AA_f3 := Aside0.mk (blk_below AA_f2.out hb)
            have BB_f3 := Aside0.mk (blk_below BB_f2.out hb)
            have V_f3 := Aside0.mk hbox
            have R_f3 := Aside0.mk (Kd.R_below R_f2.out hb)
            have R3_f3 := Aside0.mk (Kd.R_below R3_f2.out hb)
            have B_f3 := Aside0.mk (below_step B_f2.out hb)
            clear hb S_f2 U_f2 T_f2 AA_f2 BB_f2 R_f2 R3_f2 B_f2 hg hbox
            refine hK.out _ _ ⟨U_f3.out, (B_f3.out.cell (World.block_lt_of_cell? w _ X0.out)).trans X0.out, (B_f3.out.cell (World.block_lt_of_cell? w _ X1.out)).trans X1.out, (B_f3.out.cell (World.block_lt_of_cell? w _ X2.out)).trans X2.out, (B_f3.out.cell (World.block_lt_of_cell? w _ X3.out)).trans X3.out⟩ (fun hHeld => ?_)
            clear hK K
            refine norm_ (a' := ?_) ?_ ?_
            rotate_left
            · show Act.put _ (some 11) _ = _
              simp only [Act.put, List.setIfInBounds_toArray, List.set_cons_zero, List.set_cons_succ, i64_w, i32_w]
              rfl
            exact norm_ (by simp only [putAll, Act.put, List.setIfInBounds_toArray, List.set_cons_zero, List.set_cons_succ]) (hCont (gV, gBB, A3, c3) _ ⟨hHeld, S_f3.out, U_f3.out, T_f3.out, AA_f3.out, V_f3.out, BB_f3.out, L_V.out, L_BB.out, NE_S_V.out, NE_U_V.out, NE_T_V.out, NE_AA_V.out, NE_S_BB.out, NE_U_BB.out, NE_T_BB.out, NE_AA_BB.out, (Ne.symm NE_BB_V.out), R_f3.out, R3_f3.out, HC3.out, B_f3.out⟩)
        · skip
          refine box_step ?hg (N := 11) ?hd (cs := #[.slice none 0 0]) (t := 32) ?hr ?_; (case hd => rfl); (case hg => rfl); (case hr => first | (go_simp; done) | (go_simp; rfl))
          intro gV hg wk1 hbox hb
          have L_V := Aside0.mk (show w.heap.size ≤ gV by rw [hg]; exact (below_drew B913.out).size)
          have NE_S_V := Aside0.mk (show w2.heap.size ≠ gV by have := blk_lt (blk_drew S_909.out); omega)
          have NE_U_V := Aside0.mk (show w_4.heap.size ≠ gV by have := blk_lt (blk_drew U_910.out); omega)
          have NE_T_V := Aside0.mk (show gT ≠ gV by have := blk_lt (blk_drew T_911.out); omega)
          have NE_AA_V := Aside0.mk (show gAA ≠ gV by have := blk_lt (blk_drew AA_912.out); omega)
          have S_f1 := Aside0.mk (blk_below (blk_drew S_909.out) hb)
          have U_f1 := Aside0.mk (blk_below (blk_drew U_910.out) hb)
          have T_f1 := Aside0.mk (blk_below (blk_drew T_911.out) hb)
          have AA_f1 := Aside0.mk (blk_below (blk_drew AA_912.out) hb)
          have V_f1 := Aside0.mk hbox
          have R_f1 := Aside0.mk (Kd.R_below (Kd.R_drew R_908.out) hb)
          have B_f1 := Aside0.mk (below_step (below_drew B913.out) hb)
          clear hb  hg hbox
          refine hK.out _ _ ⟨U_f1.out, (B_f1.out.cell (World.block_lt_of_cell? w _ X0.out)).trans X0.out, (B_f1.out.cell (World.block_lt_of_cell? w _ X1.out)).trans X1.out, (B_f1.out.cell (World.block_lt_of_cell? w _ X2.out)).trans X2.out, (B_f1.out.cell (World.block_lt_of_cell? w _ X3.out)).trans X3.out⟩ (fun hHeld => ?_)
          clear hK K
          refine norm_ (a' := ?_) ?_ ?_
          rotate_left
          · show Act.put _ (some 11) _ = _
            simp only [Act.put, List.setIfInBounds_toArray, List.set_cons_zero, List.set_cons_succ, i64_w, i32_w]
            rfl
          refine two_ (i := 5) (j := 11) (Ni := some 48) (Nj := some 12) #[true, true, true, true, true, true, false, false, false, false, true, false, false, false, false] #[true, true, true, true, true, false, false, false, false, false, true, true, false, false, false] rfl rfl rfl rfl (by kernel_rfl) (by decide) (by decide) (fun K hK => ?_) (fun K hK => ?_)
          · skip
            refine goes_ Try.func10 (by kernel_rfl) rfl #[.agg #[.slice A1 u.length c1], .agg #[.int .i64 kd, .int .u64 k, .int .u64 v, .int .i64 z]] (by rfl) rfl rfl (by simp only [List.map_toArray, List.map_cons, List.map_nil]; rfl) ?_
            with_reducible refine (do_U u A1 c1 kd k v z w.heap.size _ R_f1.out HL.out.2 B_f1.out.size HL.out.1 mu e2 d2 x2 er HDU.out).mono ?_
            rintro e_ wk2 ⟨v0, rfl, hR, hb⟩
            obtain ⟨A3, c3, rfl, hc3, -⟩ := Kd.R_reads hR
            refine ⟨_, rfl, ?_⟩
            have HC3 := Aside0.mk hc3
            have R3_f2 := Aside0.mk hR
            clear hR hc3
            have S_f2 := Aside0.mk (blk_below S_f1.out hb)
            have U_f2 := Aside0.mk (blk_below U_f1.out hb)
            have T_f2 := Aside0.mk (blk_below T_f1.out hb)
            have AA_f2 := Aside0.mk (blk_below AA_f1.out hb)
            have V_f2 := Aside0.mk (blk_below V_f1.out hb)
            have R_f2 := Aside0.mk (Kd.R_below R_f1.out hb)
            have B_f2 := Aside0.mk (below_step B_f1.out hb)
            clear hb S_f1 U_f1 T_f1 AA_f1 V_f1 R_f1 B_f1
            refine hK.out _ _ ⟨U_f2.out, (B_f2.out.cell (World.block_lt_of_cell? w _ X0.out)).trans X0.out, (B_f2.out.cell (World.block_lt_of_cell? w _ X1.out)).trans X1.out, (B_f2.out.cell (World.block_lt_of_cell? w _ X2.out)).trans X2.out, (B_f2.out.cell (World.block_lt_of_cell? w _ X3.out)).trans X3.out⟩ (fun hHeld => ?_)
            clear hK K
            refine norm_ (a' := ?_) ?_ ?_
            rotate_left
            · show Act.put _ (some 48) _ = _
              simp only [Act.put, List.setIfInBounds_toArray, List.set_cons_zero, List.set_cons_succ, i64_w, i32_w]
              rfl
            refine pure_ (i := 6) (N := some 42) (v := ?_) (a' := ?_) #[true, true, true, true, true, true, true, false, false, false, true, false, false, false, false] rfl rfl (by kernel_rfl) (fun _ _ _ h => h) (Or.inl ⟨by rfl, ?_⟩) ?_ ?_
            rotate_left
            · intro w'
              go_simp
              with_reducible rfl
            rotate_left
            · simp only [Act.put, List.setIfInBounds_toArray, List.set_cons_zero, List.set_cons_succ, i64_w, i32_w]
              rfl
            refine pure_ (i := 7) (N := some 49) (v := ?_) (a' := ?_) #[true, true, true, true, true, true, true, true, false, false, true, false, false, false, false] rfl rfl (by kernel_rfl) (fun _ _ _ h => h) (Or.inl ⟨by rfl, ?_⟩) ?_ ?_
            rotate_left
            · intro w'
              go_simp
              with_reducible rfl
            rotate_left
            · simp only [Act.put, List.setIfInBounds_toArray, List.set_cons_zero, List.set_cons_succ, i64_w, i32_w]
              rfl
            refine pure_ (i := 8) (N := some 50) (v := ?_) (a' := ?_) #[true, true, true, true, true, true, true, true, true, false, true, false, false, false, false] rfl rfl (by kernel_rfl) (fun _ _ _ h => h) (Or.inl ⟨by rfl, ?_⟩) ?_ ?_
            rotate_left
            · intro w'
              go_simp
              with_reducible rfl
            rotate_left
            · simp only [Act.put, List.setIfInBounds_toArray, List.set_cons_zero, List.set_cons_succ, i64_w, i32_w]
              rfl
            refine pure_ (i := 9) (N := some 51) (v := ?_) (a' := ?_) #[true, true, true, true, true, true, true, true, true, true, true, false, false, false, false] rfl rfl (by kernel_rfl) (fun _ _ _ h => h) (Or.inl ⟨by rfl, ?_⟩) ?_ ?_
            rotate_left
            · intro w'
              go_simp
              with_reducible rfl
            rotate_left
            · simp only [Act.put, List.setIfInBounds_toArray, List.set_cons_zero, List.set_cons_succ, i64_w, i32_w]
              rfl
            refine one_ (i := 11) (N := some 12) #[true, true, true, true, true, true, true, true, true, true, true, true, false, false, false] rfl rfl (by kernel_rfl) (by decide) (fun K hK => ?_)
            refine box_step ?hg (N := 12) ?hd (cs := #[.int .i64 0, .bool false, .int .u64 0]) (t := 35) ?hr ?_; (case hd => rfl); (case hg => rfl); (case hr => first | (go_simp; done) | (go_simp; rfl))
            intro gBB hg wk3 hbox hb
            have L_BB := Aside0.mk (show w.heap.size ≤ gBB by rw [hg]; exact B_f2.out.size)
            have NE_S_BB := Aside0.mk (show w2.heap.size ≠ gBB by have := blk_lt S_f2.out; omega)
            have NE_U_BB := Aside0.mk (show w_4.heap.size ≠ gBB by have := blk_lt U_f2.out; omega)
            have NE_T_BB := Aside0.mk (show gT ≠ gBB by have := blk_lt T_f2.out; omega)
            have NE_AA_BB := Aside0.mk (show gAA ≠ gBB by have := blk_lt AA_f2.out; omega)
            have NE_V_BB := Aside0.mk (show gV ≠ gBB by have := blk_lt V_f2.out; omega)
            have S_f3 := Aside0.mk (blk_below S_f2.out hb)
            have U_f3 := Aside0.mk (blk_below U_f2.out hb)
            have T_f3 := Aside0.mk (blk_below T_f2.out hb)
            have AA_f3 := Aside0.mk (blk_below AA_f2.out hb)
            have V_f3 := Aside0.mk (blk_below V_f2.out hb)
            have BB_f3 := Aside0.mk hbox
            have R_f3 := Aside0.mk (Kd.R_below R_f2.out hb)
            have R3_f3 := Aside0.mk (Kd.R_below R3_f2.out hb)
            have B_f3 := Aside0.mk (below_step B_f2.out hb)
            clear hb S_f2 U_f2 T_f2 AA_f2 V_f2 R_f2 R3_f2 B_f2 hg hbox
            refine hK.out _ _ ⟨U_f3.out, (B_f3.out.cell (World.block_lt_of_cell? w _ X0.out)).trans X0.out, (B_f3.out.cell (World.block_lt_of_cell? w _ X1.out)).trans X1.out, (B_f3.out.cell (World.block_lt_of_cell? w _ X2.out)).trans X2.out, (B_f3.out.cell (World.block_lt_of_cell? w _ X3.out)).trans X3.out⟩ (fun hHeld => ?_)
            clear hK K
            refine norm_ (a' := ?_) ?_ ?_
            rotate_left
            · show Act.put _ (some 12) _ = _
              simp only [Act.put, List.setIfInBounds_toArray, List.set_cons_zero, List.set_cons_succ, i64_w, i32_w]
              rfl
            exact norm_ (by simp only [putAll, Act.put, List.setIfInBounds_toArray, List.set_cons_zero, List.set_cons_succ]) (hCont (gV, gBB, A3, c3) _ ⟨hHeld, S_f3.out, U_f3.out, T_f3.out, AA_f3.out, V_f3.out, BB_f3.out, L_V.out, L_BB.out, NE_S_V.out, NE_U_V.out, NE_T_V.out, NE_AA_V.out, NE_S_BB.out, NE_U_BB.out, NE_T_BB.out, NE_AA_BB.out, NE_V_BB.out, R_f3.out, R3_f3.out, HC3.out, B_f3.out⟩)
          · skip
            refine box_step ?hg (N := 12) ?hd (cs := #[.int .i64 0, .bool false, .int .u64 0]) (t := 35) ?hr ?_; (case hd => rfl); (case hg => rfl); (case hr => first | (go_simp; done) | (go_simp; rfl))
            intro gBB hg wk2 hbox hb
            have L_BB := Aside0.mk (show w.heap.size ≤ gBB by rw [hg]; exact B_f1.out.size)
            have NE_S_BB := Aside0.mk (show w2.heap.size ≠ gBB by have := blk_lt S_f1.out; omega)
            have NE_U_BB := Aside0.mk (show w_4.heap.size ≠ gBB by have := blk_lt U_f1.out; omega)
            have NE_T_BB := Aside0.mk (show gT ≠ gBB by have := blk_lt T_f1.out; omega)
            have NE_AA_BB := Aside0.mk (show gAA ≠ gBB by have := blk_lt AA_f1.out; omega)
            have NE_V_BB := Aside0.mk (show gV ≠ gBB by have := blk_lt V_f1.out; omega)
            have S_f2 := Aside0.mk (blk_below S_f1.out hb)
            have U_f2 := Aside0.mk (blk_below U_f1.out hb)
            have T_f2 := Aside0.mk (blk_below T_f1.out hb)
            have AA_f2 := Aside0.mk (blk_below AA_f1.out hb)
            have V_f2 := Aside0.mk (blk_below V_f1.out hb)
            have BB_f2 := Aside0.mk hbox
            have R_f2 := Aside0.mk (Kd.R_below R_f1.out hb)
            have B_f2 := Aside0.mk (below_step B_f1.out hb)
            clear hb S_f1 U_f1 T_f1 AA_f1 V_f1 R_f1 B_f1 hg hbox
            refine hK.out _ _ ⟨U_f2.out, (B_f2.out.cell (World.block_lt_of_cell? w _ X0.out)).trans X0.out, (B_f2.out.cell (World.block_lt_of_cell? w _ X1.out)).trans X1.out, (B_f2.out.cell (World.block_lt_of_cell? w _ X2.out)).trans X2.out, (B_f2.out.cell (World.block_lt_of_cell? w _ X3.out)).trans X3.out⟩ (fun hHeld => ?_)
            clear hK K
            refine norm_ (a' := ?_) ?_ ?_
            rotate_left
            · show Act.put _ (some 12) _ = _
              simp only [Act.put, List.setIfInBounds_toArray, List.set_cons_zero, List.set_cons_succ, i64_w, i32_w]
              rfl
            refine one_ (i := 5) (N := some 48) #[true, true, true, true, true, true, false, false, false, false, true, true, false, false, false] rfl rfl (by kernel_rfl) (by decide) (fun K hK => ?_)
            refine goes_ Try.func10 (by kernel_rfl) rfl #[.agg #[.slice A1 u.length c1], .agg #[.int .i64 kd, .int .u64 k, .int .u64 v, .int .i64 z]] (by rfl) rfl rfl (by simp only [List.map_toArray, List.map_cons, List.map_nil]; rfl) ?_
            with_reducible refine (do_U u A1 c1 kd k v z w.heap.size _ R_f2.out HL.out.2 B_f2.out.size HL.out.1 mu e2 d2 x2 er HDU.out).mono ?_
            rintro e_ wk3 ⟨v0, rfl, hR, hb⟩
            obtain ⟨A3, c3, rfl, hc3, -⟩ := Kd.R_reads hR
            refine ⟨_, rfl, ?_⟩
            have HC3 := Aside0.mk hc3
            have R3_f3 := Aside0.mk hR
            clear hR hc3
            have S_f3 := Aside0.mk (blk_below S_f2.out hb)
            have U_f3 := Aside0.mk (blk_below U_f2.out hb)
            have T_f3 := Aside0.mk (blk_below T_f2.out hb)
            have AA_f3 := Aside0.mk (blk_below AA_f2.out hb)
            have V_f3 := Aside0.mk (blk_below V_f2.out hb)
            have BB_f3 := Aside0.mk (blk_below BB_f2.out hb)
            have R_f3 := Aside0.mk (Kd.R_below R_f2.out hb)
            have B_f3 := Aside0.mk (below_step B_f2.out hb)
            clear hb S_f2 U_f2 T_f2 AA_f2 V_f2 BB_f2 R_f2 B_f2
            refine hK.out _ _ ⟨U_f3.out, (B_f3.out.cell (World.block_lt_of_cell? w _ X0.out)).trans X0.out, (B_f3.out.cell (World.block_lt_of_cell? w _ X1.out)).trans X1.out, (B_f3.out.cell (World.block_lt_of_cell? w _ X2.out)).trans X2.out, (B_f3.out.cell (World.block_lt_of_cell? w _ X3.out)).trans X3.out⟩ (fun hHeld => ?_)
            clear hK K
            refine norm_ (a' := ?_) ?_ ?_
            rotate_left
            · show Act.put _ (some 48) _ = _
              simp only [Act.put, List.setIfInBounds_toArray, List.set_cons_zero, List.set_cons_succ, i64_w, i32_w]
              rfl
            refine pure_ (i := 6) (N := some 42) (v := ?_) (a' := ?_) #[true, true, true, true, true, true, true, false, false, false, true, true, false, false, false] rfl rfl (by kernel_rfl) (fun _ _ _ h => h) (Or.inl ⟨by rfl, ?_⟩) ?_ ?_
            rotate_left
            · intro w'
              go_simp
              with_reducible rfl
            rotate_left
            · simp only [Act.put, List.setIfInBounds_toArray, List.set_cons_zero, List.set_cons_succ, i64_w, i32_w]
              rfl
            refine pure_ (i := 7) (N := some 49) (v := ?_) (a' := ?_) #[true, true, true, true, true, true, true, true, false, false, true, true, false, false, false] rfl rfl (by kernel_rfl) (fun _ _ _ h => h) (Or.inl ⟨by rfl, ?_⟩) ?_ ?_
            rotate_left
            · intro w'
              go_simp
              with_reducible rfl
            rotate_left
            · simp only [Act.put, List.setIfInBounds_toArray, List.set_cons_zero, List.set_cons_succ, i64_w, i32_w]
              rfl
            refine pure_ (i := 8) (N := some 50) (v := ?_) (a' := ?_) #[true, true, true, true, true, true, true, true, true, false, true, true, false, false, false] rfl rfl (by kernel_rfl) (fun _ _ _ h => h) (Or.inl ⟨by rfl, ?_⟩) ?_ ?_
            rotate_left
            · intro w'
              go_simp
              with_reducible rfl
            rotate_left
            · simp only [Act.put, List.setIfInBounds_toArray, List.set_cons_zero, List.set_cons_succ, i64_w, i32_w]
              rfl
            refine pure_ (i := 9) (N := some 51) (v := ?_) (a' := ?_) #[true, true, true, true, true, true, true, true, true, true, true, true, false, false, false] rfl rfl (by kernel_rfl) (fun _ _ _ h => h) (Or.inl ⟨by rfl, ?_⟩) ?_ ?_
            rotate_left
            · intro w'
              go_simp
              with_reducible rfl
            rotate_left
            · simp only [Act.put, List.setIfInBounds_toArray, List.set_cons_zero, List.set_cons_succ, i64_w, i32_w]
              rfl
            exact norm_ (by simp only [putAll, Act.put, List.setIfInBounds_toArray, List.set_cons_zero, List.set_cons_succ]) (hCont (gV, gBB, A3, c3) _ ⟨hHeld, S_f3.out, U_f3.out, T_f3.out, AA_f3.out, V_f3.out, BB_f3.out, L_V.out, L_BB.out, NE_S_V.out, NE_U_V.out, NE_T_V.out, NE_AA_V.out, NE_S_BB.out, NE_U_BB.out, NE_T_BB.out, NE_AA_BB.out, NE_V_BB.out, R_f3.out, R3_f3.out, HC3.out, B_f3.out⟩)
        · skip
          refine box_step ?hg (N := 12) ?hd (cs := #[.int .i64 0, .bool false, .int .u64 0]) (t := 35) ?hr ?_; (case hd => rfl); (case hg => rfl); (case hr => first | (go_simp; done) | (go_simp; rfl))
          intro gBB hg wk1 hbox hb
          have L_BB := Aside0.mk (show w.heap.size ≤ gBB by rw [hg]; exact (below_drew B913.out).size)
          have NE_S_BB := Aside0.mk (show w2.heap.size ≠ gBB by have := blk_lt (blk_drew S_909.out); omega)
          have NE_U_BB := Aside0.mk (show w_4.heap.size ≠ gBB by have := blk_lt (blk_drew U_910.out); omega)
          have NE_T_BB := Aside0.mk (show gT ≠ gBB by have := blk_lt (blk_drew T_911.out); omega)
          have NE_AA_BB := Aside0.mk (show gAA ≠ gBB by have := blk_lt (blk_drew AA_912.out); omega)
          have S_f1 := Aside0.mk (blk_below (blk_drew S_909.out) hb)
          have U_f1 := Aside0.mk (blk_below (blk_drew U_910.out) hb)
          have T_f1 := Aside0.mk (blk_below (blk_drew T_911.out) hb)
          have AA_f1 := Aside0.mk (blk_below (blk_drew AA_912.out) hb)
          have BB_f1 := Aside0.mk hbox
          have R_f1 := Aside0.mk (Kd.R_below (Kd.R_drew R_908.out) hb)
          have B_f1 := Aside0.mk (below_step (below_drew B913.out) hb)
          clear hb  hg hbox
          refine hK.out _ _ ⟨U_f1.out, (B_f1.out.cell (World.block_lt_of_cell? w _ X0.out)).trans X0.out, (B_f1.out.cell (World.block_lt_of_cell? w _ X1.out)).trans X1.out, (B_f1.out.cell (World.block_lt_of_cell? w _ X2.out)).trans X2.out, (B_f1.out.cell (World.block_lt_of_cell? w _ X3.out)).trans X3.out⟩ (fun hHeld => ?_)
          clear hK K
          refine norm_ (a' := ?_) ?_ ?_
          rotate_left
          · show Act.put _ (some 12) _ = _
            simp only [Act.put, List.setIfInBounds_toArray, List.set_cons_zero, List.set_cons_succ, i64_w, i32_w]
            rfl
          refine two_ (i := 5) (j := 10) (Ni := some 48) (Nj := some 11) #[true, true, true, true, true, true, false, false, false, false, false, true, false, false, false] #[true, true, true, true, true, false, false, false, false, false, true, true, false, false, false] rfl rfl rfl rfl (by kernel_rfl) (by decide) (by decide) (fun K hK => ?_) (fun K hK => ?_)
          · skip
            refine goes_ Try.func10 (by kernel_rfl) rfl #[.agg #[.slice A1 u.length c1], .agg #[.int .i64 kd, .int .u64 k, .int .u64 v, .int .i64 z]] (by rfl) rfl rfl (by simp only [List.map_toArray, List.map_cons, List.map_nil]; rfl) ?_
            with_reducible refine (do_U u A1 c1 kd k v z w.heap.size _ R_f1.out HL.out.2 B_f1.out.size HL.out.1 mu e2 d2 x2 er HDU.out).mono ?_
            rintro e_ wk2 ⟨v0, rfl, hR, hb⟩
            obtain ⟨A3, c3, rfl, hc3, -⟩ := Kd.R_reads hR
            refine ⟨_, rfl, ?_⟩
            have HC3 := Aside0.mk hc3
            have R3_f2 := Aside0.mk hR
            clear hR hc3
            have S_f2 := Aside0.mk (blk_below S_f1.out hb)
            have U_f2 := Aside0.mk (blk_below U_f1.out hb)
            have T_f2 := Aside0.mk (blk_below T_f1.out hb)
            have AA_f2 := Aside0.mk (blk_below AA_f1.out hb)
            have BB_f2 := Aside0.mk (blk_below BB_f1.out hb)
            have R_f2 := Aside0.mk (Kd.R_below R_f1.out hb)
            have B_f2 := Aside0.mk (below_step B_f1.out hb)
            clear hb S_f1 U_f1 T_f1 AA_f1 BB_f1 R_f1 B_f1
            refine hK.out _ _ ⟨U_f2.out, (B_f2.out.cell (World.block_lt_of_cell? w _ X0.out)).trans X0.out, (B_f2.out.cell (World.block_lt_of_cell? w _ X1.out)).trans X1.out, (B_f2.out.cell (World.block_lt_of_cell? w _ X2.out)).trans X2.out, (B_f2.out.cell (World.block_lt_of_cell? w _ X3.out)).trans X3.out⟩ (fun hHeld => ?_)
            clear hK K
            refine norm_ (a' := ?_) ?_ ?_
            rotate_left
            · show Act.put _ (some 48) _ = _
              simp only [Act.put, List.setIfInBounds_toArray, List.set_cons_zero, List.set_cons_succ, i64_w, i32_w]
              rfl
            refine pure_ (i := 6) (N := some 42) (v := ?_) (a' := ?_) #[true, true, true, true, true, true, true, false, false, false, false, true, false, false, false] rfl rfl (by kernel_rfl) (fun _ _ _ h => h) (Or.inl ⟨by rfl, ?_⟩) ?_ ?_
            rotate_left
            · intro w'
              go_simp
              with_reducible rfl
            rotate_left
            · simp only [Act.put, List.setIfInBounds_toArray, List.set_cons_zero, List.set_cons_succ, i64_w, i32_w]
              rfl
            refine pure_ (i := 7) (N := some 49) (v := ?_) (a' := ?_) #[true, true, true, true, true, true, true, true, false, false, false, true, false, false, false] rfl rfl (by kernel_rfl) (fun _ _ _ h => h) (Or.inl ⟨by rfl, ?_⟩) ?_ ?_
            rotate_left
            · intro w'
              go_simp
              with_reducible rfl
            rotate_left
            · simp only [Act.put, List.setIfInBounds_toArray, List.set_cons_zero, List.set_cons_succ, i64_w, i32_w]
              rfl
            refine pure_ (i := 8) (N := some 50) (v := ?_) (a' := ?_) #[true, true, true, true, true, true, true, true, true, false, false, true, false, false, false] rfl rfl (by kernel_rfl) (fun _ _ _ h => h) (Or.inl ⟨by rfl, ?_⟩) ?_ ?_
            rotate_left
            · intro w'
              go_simp
              with_reducible rfl
            rotate_left
            · simp only [Act.put, List.setIfInBounds_toArray, List.set_cons_zero, List.set_cons_succ, i64_w, i32_w]
              rfl
            refine pure_ (i := 9) (N := some 51) (v := ?_) (a' := ?_) #[true, true, true, true, true, true, true, true, true, true, false, true, false, false, false] rfl rfl (by kernel_rfl) (fun _ _ _ h => h) (Or.inl ⟨by rfl, ?_⟩) ?_ ?_
            rotate_left
            · intro w'
              go_simp
              with_reducible rfl
            rotate_left
            · simp only [Act.put, List.setIfInBounds_toArray, List.set_cons_zero, List.set_cons_succ, i64_w, i32_w]
              rfl
            refine one_ (i := 10) (N := some 11) #[true, true, true, true, true, true, true, true, true, true, true, true, false, false, false] rfl rfl (by kernel_rfl) (by decide) (fun K hK => ?_)
            refine box_step ?hg (N := 11) ?hd (cs := #[.slice none 0 0]) (t := 32) ?hr ?_; (case hd => rfl); (case hg => rfl); (case hr => first | (go_simp; done) | (go_simp; rfl))
            intro gV hg wk3 hbox hb
            have L_V := Aside0.mk (show w.heap.size ≤ gV by rw [hg]; exact B_f2.out.size)
            have NE_S_V := Aside0.mk (show w2.heap.size ≠ gV by have := blk_lt S_f2.out; omega)
            have NE_U_V := Aside0.mk (show w_4.heap.size ≠ gV by have := blk_lt U_f2.out; omega)
            have NE_T_V := Aside0.mk (show gT ≠ gV by have := blk_lt T_f2.out; omega)
            have NE_AA_V := Aside0.mk (show gAA ≠ gV by have := blk_lt AA_f2.out; omega)
            have NE_BB_V := Aside0.mk (show gBB ≠ gV by have := blk_lt BB_f2.out; omega)
            have S_f3 := Aside0.mk (blk_below S_f2.out hb)
            have U_f3 := Aside0.mk (blk_below U_f2.out hb)
            have T_f3 := Aside0.mk (blk_below T_f2.out hb)
            have AA_f3 := Aside0.mk (blk_below AA_f2.out hb)
            have BB_f3 := Aside0.mk (blk_below BB_f2.out hb)
            have V_f3 := Aside0.mk hbox
            have R_f3 := Aside0.mk (Kd.R_below R_f2.out hb)
            have R3_f3 := Aside0.mk (Kd.R_below R3_f2.out hb)
            have B_f3 := Aside0.mk (below_step B_f2.out hb)
            clear hb S_f2 U_f2 T_f2 AA_f2 BB_f2 R_f2 R3_f2 B_f2 hg hbox
            refine hK.out _ _ ⟨U_f3.out, (B_f3.out.cell (World.block_lt_of_cell? w _ X0.out)).trans X0.out, (B_f3.out.cell (World.block_lt_of_cell? w _ X1.out)).trans X1.out, (B_f3.out.cell (World.block_lt_of_cell? w _ X2.out)).trans X2.out, (B_f3.out.cell (World.block_lt_of_cell? w _ X3.out)).trans X3.out⟩ (fun hHeld => ?_)
            clear hK K
            refine norm_ (a' := ?_) ?_ ?_
            rotate_left
            · show Act.put _ (some 11) _ = _
              simp only [Act.put, List.setIfInBounds_toArray, List.set_cons_zero, List.set_cons_succ, i64_w, i32_w]
              rfl
            exact norm_ (by simp only [putAll, Act.put, List.setIfInBounds_toArray, List.set_cons_zero, List.set_cons_succ]) (hCont (gV, gBB, A3, c3) _ ⟨hHeld, S_f3.out, U_f3.out, T_f3.out, AA_f3.out, V_f3.out, BB_f3.out, L_V.out, L_BB.out, NE_S_V.out, NE_U_V.out, NE_T_V.out, NE_AA_V.out, NE_S_BB.out, NE_U_BB.out, NE_T_BB.out, NE_AA_BB.out, (Ne.symm NE_BB_V.out), R_f3.out, R3_f3.out, HC3.out, B_f3.out⟩)
          · skip
            refine box_step ?hg (N := 11) ?hd (cs := #[.slice none 0 0]) (t := 32) ?hr ?_; (case hd => rfl); (case hg => rfl); (case hr => first | (go_simp; done) | (go_simp; rfl))
            intro gV hg wk2 hbox hb
            have L_V := Aside0.mk (show w.heap.size ≤ gV by rw [hg]; exact B_f1.out.size)
            have NE_S_V := Aside0.mk (show w2.heap.size ≠ gV by have := blk_lt S_f1.out; omega)
            have NE_U_V := Aside0.mk (show w_4.heap.size ≠ gV by have := blk_lt U_f1.out; omega)
            have NE_T_V := Aside0.mk (show gT ≠ gV by have := blk_lt T_f1.out; omega)
            have NE_AA_V := Aside0.mk (show gAA ≠ gV by have := blk_lt AA_f1.out; omega)
            have NE_BB_V := Aside0.mk (show gBB ≠ gV by have := blk_lt BB_f1.out; omega)
            have S_f2 := Aside0.mk (blk_below S_f1.out hb)
            have U_f2 := Aside0.mk (blk_below U_f1.out hb)
            have T_f2 := Aside0.mk (blk_below T_f1.out hb)
            have AA_f2 := Aside0.mk (blk_below AA_f1.out hb)
            have BB_f2 := Aside0.mk (blk_below BB_f1.out hb)
            have V_f2 := Aside0.mk hbox
            have R_f2 := Aside0.mk (Kd.R_below R_f1.out hb)
            have B_f2 := Aside0.mk (below_step B_f1.out hb)
            clear hb S_f1 U_f1 T_f1 AA_f1 BB_f1 R_f1 B_f1 hg hbox
            refine hK.out _ _ ⟨U_f2.out, (B_f2.out.cell (World.block_lt_of_cell? w _ X0.out)).trans X0.out, (B_f2.out.cell (World.block_lt_of_cell? w _ X1.out)).trans X1.out, (B_f2.out.cell (World.block_lt_of_cell? w _ X2.out)).trans X2.out, (B_f2.out.cell (World.block_lt_of_cell? w _ X3.out)).trans X3.out⟩ (fun hHeld => ?_)
            clear hK K
            refine norm_ (a' := ?_) ?_ ?_
            rotate_left
            · show Act.put _ (some 11) _ = _
              simp only [Act.put, List.setIfInBounds_toArray, List.set_cons_zero, List.set_cons_succ, i64_w, i32_w]
              rfl
            refine one_ (i := 5) (N := some 48) #[true, true, true, true, true, true, false, false, false, false, true, true, false, false, false] rfl rfl (by kernel_rfl) (by decide) (fun K hK => ?_)
            refine goes_ Try.func10 (by kernel_rfl) rfl #[.agg #[.slice A1 u.length c1], .agg #[.int .i64 kd, .int .u64 k, .int .u64 v, .int .i64 z]] (by rfl) rfl rfl (by simp only [List.map_toArray, List.map_cons, List.map_nil]; rfl) ?_
            with_reducible refine (do_U u A1 c1 kd k v z w.heap.size _ R_f2.out HL.out.2 B_f2.out.size HL.out.1 mu e2 d2 x2 er HDU.out).mono ?_
            rintro e_ wk3 ⟨v0, rfl, hR, hb⟩
            obtain ⟨A3, c3, rfl, hc3, -⟩ := Kd.R_reads hR
            refine ⟨_, rfl, ?_⟩
            have HC3 := Aside0.mk hc3
            have R3_f3 := Aside0.mk hR
            clear hR hc3
            have S_f3 := Aside0.mk (blk_below S_f2.out hb)
            have U_f3 := Aside0.mk (blk_below U_f2.out hb)
            have T_f3 := Aside0.mk (blk_below T_f2.out hb)
            have AA_f3 := Aside0.mk (blk_below AA_f2.out hb)
            have BB_f3 := Aside0.mk (blk_below BB_f2.out hb)
            have V_f3 := Aside0.mk (blk_below V_f2.out hb)
            have R_f3 := Aside0.mk (Kd.R_below R_f2.out hb)
            have B_f3 := Aside0.mk (below_step B_f2.out hb)
            clear hb S_f2 U_f2 T_f2 AA_f2 BB_f2 V_f2 R_f2 B_f2
            refine hK.out _ _ ⟨U_f3.out, (B_f3.out.cell (World.block_lt_of_cell? w _ X0.out)).trans X0.out, (B_f3.out.cell (World.block_lt_of_cell? w _ X1.out)).trans X1.out, (B_f3.out.cell (World.block_lt_of_cell? w _ X2.out)).trans X2.out, (B_f3.out.cell (World.block_lt_of_cell? w _ X3.out)).trans X3.out⟩ (fun hHeld => ?_)
            clear hK K
            refine norm_ (a' := ?_) ?_ ?_
            rotate_left
            · show Act.put _ (some 48) _ = _
              simp only [Act.put, List.setIfInBounds_toArray, List.set_cons_zero, List.set_cons_succ, i64_w, i32_w]
              rfl
            refine pure_ (i := 6) (N := some 42) (v := ?_) (a' := ?_) #[true, true, true, true, true, true, true, false, false, false, true, true, false, false, false] rfl rfl (by kernel_rfl) (fun _ _ _ h => h) (Or.inl ⟨by rfl, ?_⟩) ?_ ?_
            rotate_left
            · intro w'
              go_simp
              with_reducible rfl
            rotate_left
            · simp only [Act.put, List.setIfInBounds_toArray, List.set_cons_zero, List.set_cons_succ, i64_w, i32_w]
              rfl
            refine pure_ (i := 7) (N := some 49) (v := ?_) (a' := ?_) #[true, true, true, true, true, true, true, true, false, false, true, true, false, false, false] rfl rfl (by kernel_rfl) (fun _ _ _ h => h) (Or.inl ⟨by rfl, ?_⟩) ?_ ?_
            rotate_left
            · intro w'
              go_simp
              with_reducible rfl
            rotate_left
            · simp only [Act.put, List.setIfInBounds_toArray, List.set_cons_zero, List.set_cons_succ, i64_w, i32_w]
              rfl
            refine pure_ (i := 8) (N := some 50) (v := ?_) (a' := ?_) #[true, true, true, true, true, true, true, true, true, false, true, true, false, false, false] rfl rfl (by kernel_rfl) (fun _ _ _ h => h) (Or.inl ⟨by rfl, ?_⟩) ?_ ?_
            rotate_left
            · intro w'
              go_simp
              with_reducible rfl
            rotate_left
            · simp only [Act.put, List.setIfInBounds_toArray, List.set_cons_zero, List.set_cons_succ, i64_w, i32_w]
              rfl
            refine pure_ (i := 9) (N := some 51) (v := ?_) (a' := ?_) #[true, true, true, true, true, true, true, true, true, true, true, true, false, false, false] rfl rfl (by kernel_rfl) (fun _ _ _ h => h) (Or.inl ⟨by rfl, ?_⟩) ?_ ?_
            rotate_left
            · intro w'
              go_simp
              with_reducible rfl
            rotate_left
            · simp only [Act.put, List.setIfInBounds_toArray, List.set_cons_zero, List.set_cons_succ, i64_w, i32_w]
              rfl
            exact norm_ (by simp only [putAll, Act.put, List.setIfInBounds_toArray, List.set_cons_zero, List.set_cons_succ]) (hCont (gV, gBB, A3, c3) _ ⟨hHeld, S_f3.out, U_f3.out, T_f3.out, AA_f3.out, V_f3.out, BB_f3.out, L_V.out, L_BB.out, NE_S_V.out, NE_U_V.out, NE_T_V.out, NE_AA_V.out, NE_S_BB.out, NE_U_BB.out, NE_T_BB.out, NE_AA_BB.out, (Ne.symm NE_BB_V.out), R_f3.out, R3_f3.out, HC3.out, B_f3.out⟩)
      rintro ⟨gV, gBB, A3, c3⟩ wF ⟨hHeld, f0_, f1_, f2_, f3_, f4_, f5_, f6_, f7_, f8_, f9_, f10_, f11_, f12_, f13_, f14_, f15_, f16_, f17_, f18_, f19_, f20_⟩
      have S_914 := Aside0.mk (show wF.heap[w2.heap.size]? = some (.cells (SV s) 29 (0, 0)) from f0_)
      have U_914 := Aside0.mk (show wF.heap[w_4.heap.size]? = some (.cells (#[.slice A1 u.length c1]) 32 (0, 0)) from f1_)
      have T_914 := Aside0.mk (show wF.heap[gT]? = some (.cells (SV m) 29 (0, 0)) from f2_)
      have AA_914 := Aside0.mk (show wF.heap[gAA]? = some (.cells (#[.int .i64 e2, .bool d2, .int .u64 x2]) 35 (0, 0)) from f3_)
      have V_914 := Aside0.mk (show wF.heap[gV]? = some (.cells #[.slice none 0 0] 32 (0, 0)) from f4_)
      have BB_914 := Aside0.mk (show wF.heap[gBB]? = some (.cells #[.int .i64 0, .bool false, .int .u64 0] 35 (0, 0)) from f5_)
      have L_V := Aside0.mk (show w.heap.size ≤ gV from f6_)
      have L_BB := Aside0.mk (show w.heap.size ≤ gBB from f7_)
      have NE_S_V := Aside0.mk (show w2.heap.size ≠ gV from f8_)
      have NE_U_V := Aside0.mk (show w_4.heap.size ≠ gV from f9_)
      have NE_T_V := Aside0.mk (show gT ≠ gV from f10_)
      have NE_AA_V := Aside0.mk (show gAA ≠ gV from f11_)
      have NE_S_BB := Aside0.mk (show w2.heap.size ≠ gBB from f12_)
      have NE_U_BB := Aside0.mk (show w_4.heap.size ≠ gBB from f13_)
      have NE_T_BB := Aside0.mk (show gT ≠ gBB from f14_)
      have NE_AA_BB := Aside0.mk (show gAA ≠ gBB from f15_)
      have NE_V_BB := Aside0.mk (show gV ≠ gBB from f16_)
      have R_914 := Aside0.mk (show Kd.R k57 57 wF w.heap.size (fun _ => True) (.slice A1 u.length c1) u from f17_)
      have R3_914 := Aside0.mk (show Kd.R k57 57 wF w.heap.size (fun _ => True) (.slice A3 mu.length c3) mu from f18_)
      have HC3 := Aside0.mk (show mu.length ≤ c3 from f19_)
      have B914 := Aside0.mk (show Below w.heap.size w wF from f20_)
      clear f0_ f1_ f2_ f3_ f4_ f5_ f6_ f7_ f8_ f9_ f10_ f11_ f12_ f13_ f14_ f15_ f16_ f17_ f18_ f19_ f20_
      refine norm_ (a' := ?_) ?_ ?_
      rotate_left
      · simp only [putAll, Act.put, List.setIfInBounds_toArray, List.set_cons_zero, List.set_cons_succ]
        rfl
      refine one_ (i := 12) (N := none) #[true, true, true, true, true, true, true, true, true, true, true, true, true, false, false] rfl rfl (by kernel_rfl) (by decide) (fun K hK => ?_)
      refine skip_whole (w := w) (B := w.heap.size) 32 (.tmp 11) (.tmp 49) (by rfl) rfl rfl (g := gV) (cs := #[.slice A3 mu.length c3]) ?_ (.agg (#[.slice A3 mu.length c3])) ?_ rfl (by kernel_rfl) (by simp [Value.oneCell']) (V_914.out) (rfl) L_V.out (B914.out) ?_
      · rfl
      · rfl
      intro w7 h1 h2 h3 h4
      have R_915 := Aside0.mk (row_far R_914.out V_914.out (by decide) h3)
      have R3_916 := Aside0.mk (row_far R3_914.out V_914.out (by decide) h3)
      have S_917 := Aside0.mk ((h3 _ NE_S_V.out).trans S_914.out)
      have U_918 := Aside0.mk ((h3 _ NE_U_V.out).trans U_914.out)
      have T_919 := Aside0.mk ((h3 _ NE_T_V.out).trans T_914.out)
      have AA_920 := Aside0.mk ((h3 _ NE_AA_V.out).trans AA_914.out)
      have V_921 := Aside0.mk (h1)
      have BB_922 := Aside0.mk ((h3 _ (Ne.symm NE_V_BB.out)).trans BB_914.out)
      have B923 := Aside0.mk (h2)
      clear h1 h2 h3 h4 R_914 R3_914 S_914 U_914 T_914 AA_914 V_914 BB_914 B914
      refine hK.out _ _ ⟨U_918.out, (B923.out.cell (World.block_lt_of_cell? w _ X0.out)).trans X0.out, (B923.out.cell (World.block_lt_of_cell? w _ X1.out)).trans X1.out, (B923.out.cell (World.block_lt_of_cell? w _ X2.out)).trans X2.out, (B923.out.cell (World.block_lt_of_cell? w _ X3.out)).trans X3.out⟩ (fun hHeld => ?_)
      clear hK K
      refine last_ (i := 13) (N := none) #[true, true, true, true, true, true, true, true, true, true, true, true, true, true, false] rfl rfl (by kernel_rfl) (by decide) (fun K hK => ?_)
      refine skip_whole (w := w) (B := w.heap.size) 35 (.tmp 12) (.tmp 50) (by rfl) rfl rfl (g := gBB) (cs := #[.int .i64 e2, .bool d2, .int .u64 x2]) ?_ (.agg (#[.int .i64 e2, .bool d2, .int .u64 x2])) ?_ rfl (by kernel_rfl) (by simp [Value.oneCell']) (BB_922.out) (rfl) L_BB.out (B923.out) ?_
      · rfl
      · rfl
      intro w8 h1 h2 h3 h4
      have R_924 := Aside0.mk (row_far R_915.out BB_922.out (by decide) h3)
      have R3_925 := Aside0.mk (row_far R3_916.out BB_922.out (by decide) h3)
      have S_926 := Aside0.mk ((h3 _ NE_S_BB.out).trans S_917.out)
      have U_927 := Aside0.mk ((h3 _ NE_U_BB.out).trans U_918.out)
      have T_928 := Aside0.mk ((h3 _ NE_T_BB.out).trans T_919.out)
      have AA_929 := Aside0.mk ((h3 _ NE_AA_BB.out).trans AA_920.out)
      have V_930 := Aside0.mk ((h3 _ NE_V_BB.out).trans V_921.out)
      have BB_931 := Aside0.mk (h1)
      have B932 := Aside0.mk (h2)
      clear h1 h2 h3 h4 R_915 R3_916 S_917 U_918 T_919 AA_920 V_921 BB_922 B923
      refine hK.out _ _ ?_
      clear hK K
      refine pure_ (i := 14) (N := some 13) (v := ?_) (a' := ?_) #[true, true, true, true, true, true, true, true, true, true, true, true, true, true, true] rfl rfl (by kernel_rfl) (fun _ _ _ h => h) (Or.inl ⟨by rfl, ?_⟩) ?_ ?_
      rotate_left
      · intro w'
        go_simp
        with_reducible rfl
      rotate_left
      · simp only [Act.put, List.setIfInBounds_toArray, List.set_cons_zero, List.set_cons_succ, i64_w, i32_w]
        rfl
      refine done_ (by kernel_rfl) ?_
      have te : (er != er) = false := by simp
      by_cases her : er = 0
      · subst her
        have t0 : ((0 : Int) != 0) = false := rfl
        go_wp2_with (first
          | ((with_reducible refine wpLd 35 (.tmp 9) ?_); refine wpList_load_row_g (by rfl) 35 (.tmp 9) rfl (gAA) rfl 35 (#[.int .i64 e2, .bool d2, .int .u64 x2]) (0, 0) _ AA_929.out Try.underlying35 rfl (by kernel_rfl) ?_)
          | ((with_reducible refine wpLd 35 (.tmp 12) ?_); refine wpList_load_row_g (by rfl) 35 (.tmp 12) rfl (gBB) rfl 35 (#[.int .i64 e2, .bool d2, .int .u64 x2]) (0, 0) _ BB_931.out Try.underlying35 rfl (by kernel_rfl) ?_)
          | ((with_reducible refine wpBi .neq 35 (.tmp 56) (.tmp 57) 35 ?_); refine wpList_value_g (by rfl) (exec_neq35 (.tmp 56) (.tmp 57) rfl e2 x2 e2 x2 d2 d2 rfl rfl false (by simp)) ?_)
          | ((with_reducible refine wpLd 29 (.tmp 8) ?_); refine wpList_load_row_g (by rfl) 29 (.tmp 8) rfl (gT) rfl 29 (SV m) (0, 0) _ T_928.out Try.underlying29 rfl (info29 _) ?_)
          | ((with_reducible refine wpSt 29 (.tmp 5) (.tmp 71) ?_); refine store_whole (w := w) (B := w.heap.size) rfl rfl 29 (.tmp 5) (.tmp 71) rfl (g := w2.heap.size) (cs := SV m) rfl _ rfl rfl (stot _) (SV_one _) S_926.out (by first | (rw [SV_size]; done) | (rw [SV_size, SV_size]; done) | (rw [SV_size]; rfl)) L_S.out B932.out ?_; intro w_933 h1 h2 h3 h4; have R_934 := Aside0.mk (row_far R_924.out S_926.out (by decide) h3); have R3_935 := Aside0.mk (row_far R3_925.out S_926.out (by decide) h3); have S_936 := Aside0.mk (h1); have U_937 := Aside0.mk ((h3 _ (Ne.symm NE_S_U.out)).trans U_927.out); have T_938 := Aside0.mk ((h3 _ (Ne.symm NE_S_T.out)).trans T_928.out); have AA_939 := Aside0.mk ((h3 _ (Ne.symm NE_S_AA.out)).trans AA_929.out); have V_940 := Aside0.mk ((h3 _ (Ne.symm NE_S_V.out)).trans V_930.out); have BB_941 := Aside0.mk ((h3 _ (Ne.symm NE_S_BB.out)).trans BB_931.out); have B942 := Aside0.mk (h2); clear h1 h2 h3 h4 R_924 R3_925 S_926 U_927 T_928 AA_929 V_930 BB_931 B932)
          | ((with_reducible refine wpLd 32 (.tmp 11) ?_); refine wpList_load_row_g (by rfl) 32 (.tmp 11) rfl (gV) rfl 32 (#[.slice A3 mu.length c3]) (0, 0) _ V_940.out Try.underlying32 rfl (by kernel_rfl) ?_)
          | ((with_reducible refine wpSt 32 (.tmp 6) (.tmp 72) ?_); refine store_whole (w := w) (B := w.heap.size) rfl rfl 32 (.tmp 6) (.tmp 72) rfl (g := w_4.heap.size) (cs := #[.slice A3 mu.length c3]) rfl _ rfl rfl (by kernel_rfl) (by simp [Value.oneCell']) U_937.out (rfl) L_U.out B942.out ?_; intro w_943 h1 h2 h3 h4; have R_944 := Aside0.mk (row_far R_934.out U_937.out (by decide) h3); have R3_945 := Aside0.mk (row_far R3_935.out U_937.out (by decide) h3); have S_946 := Aside0.mk ((h3 _ NE_S_U.out).trans S_936.out); have U_947 := Aside0.mk (h1); have T_948 := Aside0.mk ((h3 _ (Ne.symm NE_U_T.out)).trans T_938.out); have AA_949 := Aside0.mk ((h3 _ (Ne.symm NE_U_AA.out)).trans AA_939.out); have V_950 := Aside0.mk ((h3 _ (Ne.symm NE_U_V.out)).trans V_940.out); have BB_951 := Aside0.mk ((h3 _ (Ne.symm NE_U_BB.out)).trans BB_941.out); have B952 := Aside0.mk (h2); clear h1 h2 h3 h4 R_934 R3_935 S_936 U_937 T_938 AA_939 V_940 BB_941 B942)
          | ((with_reducible refine wpLd 29 (.tmp 5) ?_); refine wpList_load_row_g (by rfl) 29 (.tmp 5) rfl (w2.heap.size) rfl 29 (SV m) (0, 0) _ S_946.out Try.underlying29 rfl (info29 _) ?_))
        have HG := Aside0.mk (HM.out.get key)
        obtain ⟨KG, hKG⟩ := get_some mu key (by have := HMU.out; omega)
        rw [HG.out, ← isF_lk HM.out.srt key, ← getV_lk HM.out.srt key] at hKG
        have HKG := Aside0.mk hKG
        clear hKG
        refine (get_T m key _ HM16.out).mono ?_
        rintro e_ w10 ⟨rfl, hb⟩
        have S_953 := Aside0.mk (blk_below S_946.out hb)
        have U_954 := Aside0.mk (blk_below U_947.out hb)
        have T_955 := Aside0.mk (blk_below T_948.out hb)
        have AA_956 := Aside0.mk (blk_below AA_949.out hb)
        have V_957 := Aside0.mk (blk_below V_950.out hb)
        have BB_958 := Aside0.mk (blk_below BB_951.out hb)
        have R_959 := Aside0.mk (Kd.R_below R_944.out hb)
        have R3_960 := Aside0.mk (Kd.R_below R3_945.out hb)
        have B961 := Aside0.mk (below_step B952.out hb)
        clear hb S_946 U_947 T_948 AA_949 V_950 BB_951 R_944 R3_945 B952
        generalize getV m key = gv at *
        generalize isF key m = gb at *
        go_wp2_with (first
          | ((with_reducible refine wpLd 32 (.tmp 6) ?_); refine wpList_load_row_g (by rfl) 32 (.tmp 6) rfl (w_4.heap.size) rfl 32 (#[.slice A3 mu.length c3]) (0, 0) _ U_954.out Try.underlying32 rfl (by kernel_rfl) ?_))
        refine (revenantref21_State_Get.calls KG A3 c3 mu key gv gb _ (R_C57 R3_960.out) (HC3.out) HKG.out).mono ?_
        rintro e_ w11 ⟨rfl, hb⟩
        have S_962 := Aside0.mk (blk_below S_953.out hb)
        have U_963 := Aside0.mk (blk_below U_954.out hb)
        have T_964 := Aside0.mk (blk_below T_955.out hb)
        have AA_965 := Aside0.mk (blk_below AA_956.out hb)
        have V_966 := Aside0.mk (blk_below V_957.out hb)
        have BB_967 := Aside0.mk (blk_below BB_958.out hb)
        have R_968 := Aside0.mk (Kd.R_below R_959.out hb)
        have R3_969 := Aside0.mk (Kd.R_below R3_960.out hb)
        have B970 := Aside0.mk (below_step B961.out hb)
        clear hb S_953 U_954 T_955 AA_956 V_957 BB_958 R_959 R3_960 B961
        go_wp2_with (first
          | ((with_reducible refine wpLd 29 (.tmp 5) ?_); refine wpList_load_row_g (by rfl) 29 (.tmp 5) rfl (w2.heap.size) rfl 29 (SV m) (0, 0) _ S_962.out Try.underlying29 rfl (info29 _) ?_)
          | ((with_reducible refine wpLd 32 (.tmp 6) ?_); refine wpList_load_row_g (by rfl) 32 (.tmp 6) rfl (w_4.heap.size) rfl 32 (#[.slice A3 mu.length c3]) (0, 0) _ U_963.out Try.underlying32 rfl (by kernel_rfl) ?_))
        obtain ⟨KS, hKS⟩ := (HM.out.sorted (by have := HMU.out; omega)).1
        refine (alike_T m A3 c3 mu KS _ HM16.out (R_C57 R3_969.out) (HC3.out) hKS).mono ?_
        rintro e_ w12 ⟨rfl, hb⟩
        have S_971 := Aside0.mk (blk_below S_962.out hb)
        have U_972 := Aside0.mk (blk_below U_963.out hb)
        have T_973 := Aside0.mk (blk_below T_964.out hb)
        have AA_974 := Aside0.mk (blk_below AA_965.out hb)
        have V_975 := Aside0.mk (blk_below V_966.out hb)
        have BB_976 := Aside0.mk (blk_below BB_967.out hb)
        have R_977 := Aside0.mk (Kd.R_below R_968.out hb)
        have R3_978 := Aside0.mk (Kd.R_below R3_969.out hb)
        have B979 := Aside0.mk (below_step B970.out hb)
        clear hb S_962 U_963 T_964 AA_965 V_966 BB_967 R_968 R3_969 B970
        have tv : (gv != gv) = false := by simp
        have tb : (gb != gb) = false := by simp
        go_wp2_with fail
        go_roundg ko
        case rel => exact ⟨i + 1, m, mu, A3, c3, by first | rfl | rw [wi], ⟨by have := HK.out; have := q1.out; omega⟩, ⟨HM.out⟩, ⟨HM16.out⟩, ⟨HMU.out, HC3.out⟩, ⟨B979.out⟩, ⟨S_971.out⟩, ⟨U_972.out⟩, ⟨R3_978.out⟩⟩
        case measure => exact Nat.lt_succ_self _
      · have tm : m = [] := HME.out her
        subst tm
        have t0 : (er != 0) = true := by simp [her]
        have t00 : (er == 0) = false := beq_eq_false_iff_ne.2 her
        replace her := eq_false her
        go_wp2_with (first
          | ((with_reducible refine wpLd 35 (.tmp 9) ?_); refine wpList_load_row_g (by rfl) 35 (.tmp 9) rfl (gAA) rfl 35 (#[.int .i64 e2, .bool d2, .int .u64 x2]) (0, 0) _ AA_929.out Try.underlying35 rfl (by kernel_rfl) ?_)
          | ((with_reducible refine wpLd 35 (.tmp 12) ?_); refine wpList_load_row_g (by rfl) 35 (.tmp 12) rfl (gBB) rfl 35 (#[.int .i64 e2, .bool d2, .int .u64 x2]) (0, 0) _ BB_931.out Try.underlying35 rfl (by kernel_rfl) ?_)
          | ((with_reducible refine wpBi .neq 35 (.tmp 56) (.tmp 57) 35 ?_); refine wpList_value_g (by rfl) (exec_neq35 (.tmp 56) (.tmp 57) rfl e2 x2 e2 x2 d2 d2 rfl rfl false (by simp)) ?_)
          | ((with_reducible refine wpLd 29 (.tmp 8) ?_); refine wpList_load_row_g (by rfl) 29 (.tmp 8) rfl (gT) rfl 29 (SV []) (0, 0) _ T_928.out Try.underlying29 rfl (info29 _) ?_)
          | ((with_reducible refine wpBi .neq 29 (.tmp 64) (.tmp 65) 29 ?_); refine wpList_value_g (by rfl) (exec_ne29s (.tmp 64) (.tmp 65) rfl [] rfl rfl (by decide)) ?_)
          | ((with_reducible refine wpLd 29 (.tmp 5) ?_); refine wpList_load_row_g (by rfl) 29 (.tmp 5) rfl (w2.heap.size) rfl 29 (SV s) (0, 0) _ S_926.out Try.underlying29 rfl (info29 _) ?_))
        have HG := Aside0.mk (HREL.out.get key)
        obtain ⟨KG, hKG⟩ := get_some u key (by have := HL.out.1; omega)
        rw [HG.out, ← isF_lk HREL.out.srt key, ← getV_lk HREL.out.srt key] at hKG
        have HKG := Aside0.mk hKG
        clear hKG
        refine (get_T s key _ HS.out).mono ?_
        rintro e_ w10 ⟨rfl, hb⟩
        have S_933 := Aside0.mk (blk_below S_926.out hb)
        have U_934 := Aside0.mk (blk_below U_927.out hb)
        have T_935 := Aside0.mk (blk_below T_928.out hb)
        have AA_936 := Aside0.mk (blk_below AA_929.out hb)
        have V_937 := Aside0.mk (blk_below V_930.out hb)
        have BB_938 := Aside0.mk (blk_below BB_931.out hb)
        have R_939 := Aside0.mk (Kd.R_below R_924.out hb)
        have R3_940 := Aside0.mk (Kd.R_below R3_925.out hb)
        have B941 := Aside0.mk (below_step B932.out hb)
        clear hb S_926 U_927 T_928 AA_929 V_930 BB_931 R_924 R3_925 B932
        generalize getV s key = gv at *
        generalize isF key s = gb at *
        go_wp2_with (first
          | ((with_reducible refine wpLd 32 (.tmp 6) ?_); refine wpList_load_row_g (by rfl) 32 (.tmp 6) rfl (w_4.heap.size) rfl 32 (#[.slice A1 u.length c1]) (0, 0) _ U_934.out Try.underlying32 rfl (by kernel_rfl) ?_))
        refine (revenantref21_State_Get.calls KG A1 c1 u key gv gb _ (R_C57 R_939.out) (HL.out.2) HKG.out).mono ?_
        rintro e_ w11 ⟨rfl, hb⟩
        have S_942 := Aside0.mk (blk_below S_933.out hb)
        have U_943 := Aside0.mk (blk_below U_934.out hb)
        have T_944 := Aside0.mk (blk_below T_935.out hb)
        have AA_945 := Aside0.mk (blk_below AA_936.out hb)
        have V_946 := Aside0.mk (blk_below V_937.out hb)
        have BB_947 := Aside0.mk (blk_below BB_938.out hb)
        have R_948 := Aside0.mk (Kd.R_below R_939.out hb)
        have R3_949 := Aside0.mk (Kd.R_below R3_940.out hb)
        have B950 := Aside0.mk (below_step B941.out hb)
        clear hb S_933 U_934 T_935 AA_936 V_937 BB_938 R_939 R3_940 B941
        go_wp2_with (first
          | ((with_reducible refine wpLd 29 (.tmp 5) ?_); refine wpList_load_row_g (by rfl) 29 (.tmp 5) rfl (w2.heap.size) rfl 29 (SV s) (0, 0) _ S_942.out Try.underlying29 rfl (info29 _) ?_)
          | ((with_reducible refine wpLd 32 (.tmp 6) ?_); refine wpList_load_row_g (by rfl) 32 (.tmp 6) rfl (w_4.heap.size) rfl 32 (#[.slice A1 u.length c1]) (0, 0) _ U_943.out Try.underlying32 rfl (by kernel_rfl) ?_))
        obtain ⟨KS, hKS⟩ := (HREL.out.sorted (by have := HL.out.1; omega)).1
        refine (alike_T s A1 c1 u KS _ HS.out (R_C57 R_948.out) (HL.out.2) hKS).mono ?_
        rintro e_ w12 ⟨rfl, hb⟩
        have S_951 := Aside0.mk (blk_below S_942.out hb)
        have U_952 := Aside0.mk (blk_below U_943.out hb)
        have T_953 := Aside0.mk (blk_below T_944.out hb)
        have AA_954 := Aside0.mk (blk_below AA_945.out hb)
        have V_955 := Aside0.mk (blk_below V_946.out hb)
        have BB_956 := Aside0.mk (blk_below BB_947.out hb)
        have R_957 := Aside0.mk (Kd.R_below R_948.out hb)
        have R3_958 := Aside0.mk (Kd.R_below R3_949.out hb)
        have B959 := Aside0.mk (below_step B950.out hb)
        clear hb S_942 U_943 T_944 AA_945 V_946 BB_947 R_948 R3_949 B950
        have tv : (gv != gv) = false := by simp
        have tb : (gb != gb) = false := by simp
        go_wp2_with fail
        go_roundg ko
        case rel => exact ⟨i + 1, s, u, A1, c1, by first | rfl | rw [wi], ⟨by have := HK.out; have := q1.out; omega⟩, ⟨HREL.out⟩, ⟨HS.out⟩, ⟨HL.out.1, HL.out.2⟩, ⟨B959.out⟩, ⟨S_951.out⟩, ⟨U_952.out⟩, ⟨R_957.out⟩⟩
        case measure => exact Nat.lt_succ_self _
    · have tt : decide (i < (l.length : Int)) = false ∨ (decide (i < (l.length : Int)) = true ∧ decide (i < 60) = false) := by
        by_cases h : i < (l.length : Int)
        · exact .inr ⟨decide_eq_true h, decide_eq_false (fun h2 => hi ⟨h, h2⟩)⟩
        · exact .inl (decide_eq_false h)
      clear hi
      rcases tt with t1 | ⟨t1, t2⟩
      all_goals
        go_wp2_with fail
        go_ret
        exact ⟨rfl, B900.out⟩
def revenantlaw21_SpecExact.f (xs : List S39) (a1 : Int) : Option Bool := some true
theorem revenantlaw21_SpecExact.calls (A0_ : Option Addr) (c0 : Nat) (xs : List S39) (a1 : Int) (r : Bool) (w : World) (hr0 : Kd.C k39 w A0_ xs.length xs) (hc0 : xs.length ≤ c0) (h : revenantlaw21_SpecExact.f xs a1 = some r) :
    Calls Try.prog 3 #[.slice A0_ xs.length c0, .int .u64 a1] w fun e w' => e = .returned (.bool r) ∧ Below w.heap.size w w' := by
  obtain rfl := Option.some.inj h
  exact exact21_T A0_ c0 xs a1 w hr0 hc0
theorem RSpecExact (xs : List S39) (a1 : Int) {P Q : Prop} (_ : P) (_ : Q) : revenantlaw21_SpecExact.f xs a1 = some true := rfl
end Go.Proofs.Ytcphmelmieedfab.PSpecExact

