/-
The law SpecValues.
-/
import Derived.Test.YtcphmelmieedfabSpecV
namespace Go.Proofs.Ytcphmelmieedfab.PSpecExact
open Go Go.RowKit Go.Proofs.YtcphmelmieedfabW.PrintWords Go.Proofs.YtcphmelmieedfabW.PrintLast Go.Proofs.YtcphmelmieedfabW.PrintMore
attribute [local go_sem] max2_int min2_int max_two min_two max_three min_three max_four min_four
set_option linter.unusedVariables false
set_option linter.unusedSimpArgs false
theorem wpLd {P : Program} {ops : Array Oper} {rest : List Oper} {d : Option Tmp} {t2 : TypeId} {ps : String} {af : Array Edge} {gd : Option (Nat × Bool)} {a : Act} {w : World} {Q : Exit → Act → World → Prop} (ty : TypeId) (x : Operand) (h : wpList P ops Q (⟨d, .load ty x, t2, ps, af, gd⟩ :: rest) a w) : wpList P ops Q (⟨d, .load ty x, t2, ps, af, gd⟩ :: rest) a w := h
theorem wpSt {P : Program} {ops : Array Oper} {rest : List Oper} {d : Option Tmp} {t2 : TypeId} {ps : String} {af : Array Edge} {gd : Option (Nat × Bool)} {a : Act} {w : World} {Q : Exit → Act → World → Prop} (ty : TypeId) (x y : Operand) (h : wpList P ops Q (⟨d, .store ty x y, t2, ps, af, gd⟩ :: rest) a w) : wpList P ops Q (⟨d, .store ty x y, t2, ps, af, gd⟩ :: rest) a w := h
theorem wpBi {P : Program} {ops : Array Oper} {rest : List Oper} {d : Option Tmp} {t2 : TypeId} {ps : String} {af : Array Edge} {gd : Option (Nat × Bool)} {a : Act} {w : World} {Q : Exit → Act → World → Prop} (bo : BinOp) (ty : TypeId) (x y : Operand) (ty2 : TypeId) (h : wpList P ops Q (⟨d, .binOp bo ty x y ty2, t2, ps, af, gd⟩ :: rest) a w) : wpList P ops Q (⟨d, .binOp bo ty x y ty2, t2, ps, af, gd⟩ :: rest) a w := h
theorem wpLk {P : Program} {ops : Array Oper} {rest : List Oper} {d : Option Tmp} {t2 : TypeId} {ps : String} {af : Array Edge} {gd : Option (Nat × Bool)} {a : Act} {w : World} {Q : Exit → Act → World → Prop} (ty : TypeId) (x y : Operand) (b : Bool) (h : wpList P ops Q (⟨d, .lookup ty x y b, t2, ps, af, gd⟩ :: rest) a w) : wpList P ops Q (⟨d, .lookup ty x y b, t2, ps, af, gd⟩ :: rest) a w := h
theorem exec_eq29n {o : Oper} {a : Act} {w : World} (p q : Operand) (ho : o.op = .binOp .eql 29 p q 29) (l r : List S26) (hp : a.eval p = .agg (SV l)) (hq : a.eval q = .agg (SV r)) (hl : l.length ≤ 16) (hne : l ≠ r) : (execOp a.eval o).run Try.prog w = .ok (.value (.bool false)) w := by
  rw [exec_eq29 p q ho l r hp hq hl, decide_eq_false hne]
theorem only26 : ∀ q, q ∈ 26 :: k26.E → q = 26 := by
  intro q hq
  simpa [k26, Kd.iso, Kd.pair, Kd.int, Kd.scalar] using hq
theorem row_far26 {W W1 : World} {B g t : Nat} {cs : Array Value} {v : Value} {xs : List S26} {ok : Nat → Prop} (h : Kd.R k26 26 W B ok v xs) (hb : W.heap[g]? = some (.cells cs t (0, 0))) (ht : 26 ≠ t) (h3 : ∀ k, k ≠ g → W1.heap[k]? = W.heap[k]?) : Kd.R k26 26 W1 B ok v xs :=
  Kd.R_mono (Kd.R_step (Kd.R_types h hb (fun q hq => by rw [only26 q hq]; exact ht)) (fun k ho _ => h3 k ho.2)) (fun _ hk => hk.1)
theorem R_C26 {W : World} {B n c : Nat} {A : Option Addr} {ok : Nat → Prop} {xs : List S26} (h : Kd.R k26 26 W B ok (.slice A n c) xs) : Kd.C k26 W A xs.length xs := (Kd.R_reads' h).2.2
theorem inf26 : (Try.prog.info? 26).map (fun i => (i.zero, i.size, i.bytes)) = some (some (.agg #[(.int .u64 0), (.int .u64 0)]), 2, 16) := by kernel_rfl
theorem exec_lk {o : Oper} {a : Act} {w : World} (x k : Operand) (ho : o.op = .lookup 53 x k false) (g : Nat) (hx : a.eval x = .map (some g)) (l : List S26) (hl : l.length ≤ 16) (hk : a.eval k = .agg (SV l)) (m : List (K29 × Int)) (hM : M.MapIs e29 eI w g m) (r : Int) (hr : (M.get m ⟨l, hl⟩).getD 0 = r) : (execOp a.eval o).run Try.prog w = .ok (.value (.int .i64 r)) w := by
  have hz : (zeroValue 3).run Try.prog w = .ok (eI 0) w := by kernel_rfl
  have h := M.look keyOf29 Try.underlying53 0 hz hM ⟨l, hl⟩
  rw [hr] at h
  have h : (Instr.lookup 53 (.map (some g)) (.agg (SV l)) false).run Try.prog w = .ok (.int .i64 r) w := h
  unfold execOp
  simp [ho, hx, hk, h]
theorem at_lt (x : Int) (n : Nat) (h0 : 0 < n) (h1 : n ≤ 16) : 0 ≤ wrap64 ((IntKind.u64.wrap x).tmod (IntKind.u64.wrap (n : Int))) ∧ wrap64 ((IntKind.u64.wrap x).tmod (IntKind.u64.wrap (n : Int))) < n := by
  have e : IntKind.u64.wrap (n : Int) = n := by have := IntKind.wrap_u64 (n : Int); omega
  have h2 : 0 ≤ IntKind.u64.wrap x := by have := IntKind.wrap_u64 x; omega
  rw [e]
  have h3 := Int.tmod_nonneg (n : Int) h2
  have h4 := Int.tmod_lt_of_pos (IntKind.u64.wrap x) (show (0 : Int) < n by omega)
  unfold wrap64
  omega
theorem nz_u (n : Nat) (h0 : 0 < n) (h1 : n ≤ 16) : (IntKind.u64.wrap (n : Int) = 0) = False := by
  have e : IntKind.u64.wrap (n : Int) = n := by have := IntKind.wrap_u64 (n : Int); omega
  rw [e]
  exact eq_false (by omega)
set_option maxHeartbeats 64000000 in
set_option maxRecDepth 100000 in
theorem values_err (A : Option Addr) (c : Nat) (l : List S26) (Ap : Option Addr) (cp : Nat) (picks : List Int) (pk pv : Int) (s : List S26) (er : Int) (w : World) (hC : Kd.C k26 w A l.length l) (hcc : l.length ≤ c) (hg : l.length ≤ 4611686018427387904) (hCp : Kd.C (Kd.int .i64) w Ap picks.length picks) (hcp : picks.length ≤ cp) (hnw : newV l = (s, er)) (her : er ≠ 0) :
    Calls Try.prog 5 #[.slice A l.length c, .slice Ap picks.length cp, .agg #[.int .u64 pk, .int .u64 pv]] w fun e w' => e = .returned (.bool true) ∧ Below w.heap.size w w' := by
  have hu26 := Try.underlying26
  have hu29 := Try.underlying29
  have hu46 := Try.underlying46
  have HC := Aside0.mk hC
  have HCC := Aside0.mk hcc
  have HG := Aside0.mk hg
  have HCP := Aside0.mk hCp
  have HCPC := Aside0.mk hcp
  clear hC hcc hg hCp hcp
  have Xhnw := Aside0.mk hnw
  clear hnw
  have Xher := Aside0.mk her
  clear her
  have L_P := Aside0.mk (show w.heap.size ≤ w.heap.size from Nat.le_refl _)
  have P_1 := Aside0.mk (blk_new (w) (.cells (#[.int .u64 pk, .int .u64 pv]) 26))
  have B2 := Aside0.mk (below_alloc (Below.refl w.heap.size w) (.cells (#[.int .u64 pk, .int .u64 pv]) 26))
  go_enter Try.func5, Try.ntmps5
  go_wp2_with fail
  refine (awake_T _).mono ?_
  rintro e_ w2 ⟨rfl, hb⟩
  have P_3 := Aside0.mk (blk_below P_1.out hb)
  have B4 := Aside0.mk (below_step B2.out hb)
  clear hb P_1 B2
  go_wp2_with fail
  refine (new_T A c l _ (Kd.C_below HC.out B4.out) HCC.out HG.out).mono ?_
  rintro e_ w3 ⟨rfl, -, hb⟩
  rw [Xhnw.out]
  have P_5 := Aside0.mk (blk_below P_3.out hb)
  have B6 := Aside0.mk (below_step B4.out hb)
  clear hb P_3 B4
  have L_S := Aside0.mk (show w.heap.size ≤ w3.heap.size from B6.out.size)
  have NE_P_S := Aside0.mk (show w.heap.size ≠ w3.heap.size by have := blk_lt P_5.out; omega)
  have P_7 := Aside0.mk (blk_alloc P_5.out (.cells #[.int .i64 0, .int .u64 0, .int .u64 0, .int .u64 0, .int .u64 0, .int .u64 0, .int .u64 0, .int .u64 0, .int .u64 0, .int .u64 0, .int .u64 0, .int .u64 0, .int .u64 0, .int .u64 0, .int .u64 0, .int .u64 0, .int .u64 0, .int .u64 0, .int .u64 0, .int .u64 0, .int .u64 0, .int .u64 0, .int .u64 0, .int .u64 0, .int .u64 0, .int .u64 0, .int .u64 0, .int .u64 0, .int .u64 0, .int .u64 0, .int .u64 0, .int .u64 0, .int .u64 0] 29))
  have S_8 := Aside0.mk (blk_new (w3) (.cells #[.int .i64 0, .int .u64 0, .int .u64 0, .int .u64 0, .int .u64 0, .int .u64 0, .int .u64 0, .int .u64 0, .int .u64 0, .int .u64 0, .int .u64 0, .int .u64 0, .int .u64 0, .int .u64 0, .int .u64 0, .int .u64 0, .int .u64 0, .int .u64 0, .int .u64 0, .int .u64 0, .int .u64 0, .int .u64 0, .int .u64 0, .int .u64 0, .int .u64 0, .int .u64 0, .int .u64 0, .int .u64 0, .int .u64 0, .int .u64 0, .int .u64 0, .int .u64 0, .int .u64 0] 29))
  have B9 := Aside0.mk (below_alloc B6.out (.cells #[.int .i64 0, .int .u64 0, .int .u64 0, .int .u64 0, .int .u64 0, .int .u64 0, .int .u64 0, .int .u64 0, .int .u64 0, .int .u64 0, .int .u64 0, .int .u64 0, .int .u64 0, .int .u64 0, .int .u64 0, .int .u64 0, .int .u64 0, .int .u64 0, .int .u64 0, .int .u64 0, .int .u64 0, .int .u64 0, .int .u64 0, .int .u64 0, .int .u64 0, .int .u64 0, .int .u64 0, .int .u64 0, .int .u64 0, .int .u64 0, .int .u64 0, .int .u64 0, .int .u64 0] 29))
  clear P_5 B6
  have te : (er == 0) = false := beq_eq_false_iff_ne.2 Xher.out
  have te2 : (er != 0) = true := by simp [Xher.out]
  have tf := eq_false Xher.out
  go_wp2_with (first
    | ((with_reducible refine wpSt 29 (.tmp 7) (.tmp 24) ?_); refine store_whole (w := w) (B := w.heap.size) rfl rfl 29 (.tmp 7) (.tmp 24) rfl (g := w3.heap.size) (cs := SV s) rfl _ rfl rfl (stot _) (SV_one _) S_8.out (by first | (rw [SV_size]; done) | (rw [SV_size, SV_size]; done) | (rw [SV_size]; rfl)) L_S.out B9.out ?_; intro w_10 h1 h2 h3 h4; have P_11 := Aside0.mk ((h3 _ NE_P_S.out).trans P_7.out); have S_12 := Aside0.mk (h1); have B13 := Aside0.mk (h2); clear h1 h2 h3 h4 P_7 S_8 B9))
  go_ret
  exact ⟨rfl, B13.out⟩
set_option maxHeartbeats 64000000 in
set_option maxRecDepth 100000 in
theorem values_ok (A : Option Addr) (c : Nat) (l : List S26) (Ap : Option Addr) (cp : Nat) (picks : List Int) (pk pv : Int) (s : List S26) (w : World) (hC : Kd.C k26 w A l.length l) (hcc : l.length ≤ c) (hg : l.length ≤ 4611686018427387904) (hCp : Kd.C (Kd.int .i64) w Ap picks.length picks) (hcp : picks.length ≤ cp) (hnw : newV l = (s, 0)) (hrel : Rel s (l.map c57)) (hs : s.length ≤ 16) (hll : l.length ≤ 16) (hcs : (∃ u er, withV s ⟨pk, pv⟩ = (u, er) ∧ er ≠ 0) ∨ (∃ u, withV s ⟨pk, pv⟩ = (u, 0) ∧ u.length ≤ 16 ∧ isF pk s = false ∧ withoutV u pk = s ∧ u ≠ s) ∨ (∃ u, withV s ⟨pk, pv⟩ = (u, 0) ∧ u.length ≤ 16 ∧ isF pk s = true ∧ getV s pk = pv ∧ withV (withoutV u pk) ⟨pk, pv⟩ = (s, 0) ∧ u = s) ∨ (∃ u, withV s ⟨pk, pv⟩ = (u, 0) ∧ u.length ≤ 16 ∧ isF pk s = true ∧ getV s pk ≠ pv ∧ withV (withoutV u pk) ⟨pk, getV s pk⟩ = (s, 0) ∧ u ≠ s)) :
    Calls Try.prog 5 #[.slice A l.length c, .slice Ap picks.length cp, .agg #[.int .u64 pk, .int .u64 pv]] w fun e w' => e = .returned (.bool true) ∧ Below w.heap.size w w' := by
  have hu26 := Try.underlying26
  have hu29 := Try.underlying29
  have hu46 := Try.underlying46
  have HC := Aside0.mk hC
  have HCC := Aside0.mk hcc
  have HG := Aside0.mk hg
  have HCP := Aside0.mk hCp
  have HCPC := Aside0.mk hcp
  clear hC hcc hg hCp hcp
  have Xhnw := Aside0.mk hnw
  clear hnw
  have Xhrel := Aside0.mk hrel
  clear hrel
  have Xhs := Aside0.mk hs
  clear hs
  have Xhll := Aside0.mk hll
  clear hll
  have Xhcs := Aside0.mk hcs
  clear hcs
  have L_P := Aside0.mk (show w.heap.size ≤ w.heap.size from Nat.le_refl _)
  have P_1 := Aside0.mk (blk_new (w) (.cells (#[.int .u64 pk, .int .u64 pv]) 26))
  have B2 := Aside0.mk (below_alloc (Below.refl w.heap.size w) (.cells (#[.int .u64 pk, .int .u64 pv]) 26))
  go_enter Try.func5, Try.ntmps5
  go_wp2_with fail
  refine (awake_T _).mono ?_
  rintro e_ w2 ⟨rfl, hb⟩
  have P_3 := Aside0.mk (blk_below P_1.out hb)
  have B4 := Aside0.mk (below_step B2.out hb)
  clear hb P_1 B2
  go_wp2_with fail
  refine (new_T A c l _ (Kd.C_below HC.out B4.out) HCC.out HG.out).mono ?_
  rintro e_ w3 ⟨rfl, -, hb⟩
  rw [Xhnw.out]
  have P_5 := Aside0.mk (blk_below P_3.out hb)
  have B6 := Aside0.mk (below_step B4.out hb)
  clear hb P_3 B4
  have L_S := Aside0.mk (show w.heap.size ≤ w3.heap.size from B6.out.size)
  have NE_P_S := Aside0.mk (show w.heap.size ≠ w3.heap.size by have := blk_lt P_5.out; omega)
  have P_7 := Aside0.mk (blk_alloc P_5.out (.cells #[.int .i64 0, .int .u64 0, .int .u64 0, .int .u64 0, .int .u64 0, .int .u64 0, .int .u64 0, .int .u64 0, .int .u64 0, .int .u64 0, .int .u64 0, .int .u64 0, .int .u64 0, .int .u64 0, .int .u64 0, .int .u64 0, .int .u64 0, .int .u64 0, .int .u64 0, .int .u64 0, .int .u64 0, .int .u64 0, .int .u64 0, .int .u64 0, .int .u64 0, .int .u64 0, .int .u64 0, .int .u64 0, .int .u64 0, .int .u64 0, .int .u64 0, .int .u64 0, .int .u64 0] 29))
  have S_8 := Aside0.mk (blk_new (w3) (.cells #[.int .i64 0, .int .u64 0, .int .u64 0, .int .u64 0, .int .u64 0, .int .u64 0, .int .u64 0, .int .u64 0, .int .u64 0, .int .u64 0, .int .u64 0, .int .u64 0, .int .u64 0, .int .u64 0, .int .u64 0, .int .u64 0, .int .u64 0, .int .u64 0, .int .u64 0, .int .u64 0, .int .u64 0, .int .u64 0, .int .u64 0, .int .u64 0, .int .u64 0, .int .u64 0, .int .u64 0, .int .u64 0, .int .u64 0, .int .u64 0, .int .u64 0, .int .u64 0, .int .u64 0] 29))
  have B9 := Aside0.mk (below_alloc B6.out (.cells #[.int .i64 0, .int .u64 0, .int .u64 0, .int .u64 0, .int .u64 0, .int .u64 0, .int .u64 0, .int .u64 0, .int .u64 0, .int .u64 0, .int .u64 0, .int .u64 0, .int .u64 0, .int .u64 0, .int .u64 0, .int .u64 0, .int .u64 0, .int .u64 0, .int .u64 0, .int .u64 0, .int .u64 0, .int .u64 0, .int .u64 0, .int .u64 0, .int .u64 0, .int .u64 0, .int .u64 0, .int .u64 0, .int .u64 0, .int .u64 0, .int .u64 0, .int .u64 0, .int .u64 0] 29))
  clear P_5 B6
  go_wp2_with (first
    | ((with_reducible refine wpSt 29 (.tmp 7) (.tmp 24) ?_); refine store_whole (w := w) (B := w.heap.size) rfl rfl 29 (.tmp 7) (.tmp 24) rfl (g := w3.heap.size) (cs := SV s) rfl _ rfl rfl (stot _) (SV_one _) S_8.out (by first | (rw [SV_size]; done) | (rw [SV_size, SV_size]; done) | (rw [SV_size]; rfl)) L_S.out B9.out ?_; intro w_10 h1 h2 h3 h4; have P_11 := Aside0.mk ((h3 _ NE_P_S.out).trans P_7.out); have S_12 := Aside0.mk (h1); have B13 := Aside0.mk (h2); clear h1 h2 h3 h4 P_7 S_8 B9)
    | ((with_reducible refine gate_dst (N := 28) rfl ?_); refine Kd.R_lit k26 (w0 := w_10) w_10.heap.size 26 ?hg (N := 28) ?hd (xs := ([] : List S26)) (inner := []) (ok := fun k => w_10.heap.size ≤ k) (okp := fun _ => False) ?hr ?hp (fun _ hk => hk.elim) (Nat.le_refl _) (Below.refl _ _) (Nat.le_refl _) (by simp) ?_; (case hd => rfl); (case hg => rfl); (case hr => first | (go_simp; done) | (go_simp; rfl)); (case hp => exact (Reps.none _ _)); intro v28 w5 ho5 hb5 hg_ hnew_; have HO5 := Aside0.mk ho5; have HB5 := Aside0.mk hb5; clear ho5 hb5 hg_ hnew_)
    | ((with_reducible refine gate_builtin (b := .append) (xs := #[.tmp 28, .tmp 29]) rfl ?_); at_builtin; refine Kd.R_append_rows k26 (w0 := w_10) w_10.heap.size rfl (.tmp 28) (.tmp 29) 46 26 (.agg #[(.int .u64 0), (.int .u64 0)]) 16 rfl Try.underlying46 inf26 rfl (by decide) (by omega) v28 [] l A _ _ (fun k => w_10.heap.size ≤ k) (fun _ => False) rfl rfl HO5.out (Kd.C_below (Kd.C_below HC.out B13.out) HB5.out) (fun _ _ h => h) (fun _ h => h.elim) (fun k hk => Nat.le_trans HB5.out.size hk) HB5.out HB5.out.size (by have := Xhll.out; simp; omega) ?_; intro v30 w6 ho6 hb hg_ hat_; have P_14 := Aside0.mk (blk_below P_11.out hb); have S_15 := Aside0.mk (blk_below S_12.out hb); have R_800 := Aside0.mk (Kd.R_mono (ok' := fun _ => True) (Kd.R_lower ho6 (B13.out).size) (fun _ _ => trivial)); have B16 := Aside0.mk (below_step B13.out hb); clear ho6 hb hg_ hat_ HO5 HB5 B13 P_11 S_12; have L_T := Aside0.mk (show w.heap.size ≤ w6.heap.size from B16.out.size); have NE_P_T := Aside0.mk (show w.heap.size ≠ w6.heap.size by have := blk_lt P_14.out; omega); have NE_S_T := Aside0.mk (show w3.heap.size ≠ w6.heap.size by have := blk_lt S_15.out; omega); have P_17 := Aside0.mk (blk_alloc P_14.out (.cells #[.int .i64 0, .int .u64 0, .int .u64 0, .int .u64 0, .int .u64 0, .int .u64 0, .int .u64 0, .int .u64 0, .int .u64 0, .int .u64 0, .int .u64 0, .int .u64 0, .int .u64 0, .int .u64 0, .int .u64 0, .int .u64 0, .int .u64 0, .int .u64 0, .int .u64 0, .int .u64 0, .int .u64 0, .int .u64 0, .int .u64 0, .int .u64 0, .int .u64 0, .int .u64 0, .int .u64 0, .int .u64 0, .int .u64 0, .int .u64 0, .int .u64 0, .int .u64 0, .int .u64 0] 29)); have S_18 := Aside0.mk (blk_alloc S_15.out (.cells #[.int .i64 0, .int .u64 0, .int .u64 0, .int .u64 0, .int .u64 0, .int .u64 0, .int .u64 0, .int .u64 0, .int .u64 0, .int .u64 0, .int .u64 0, .int .u64 0, .int .u64 0, .int .u64 0, .int .u64 0, .int .u64 0, .int .u64 0, .int .u64 0, .int .u64 0, .int .u64 0, .int .u64 0, .int .u64 0, .int .u64 0, .int .u64 0, .int .u64 0, .int .u64 0, .int .u64 0, .int .u64 0, .int .u64 0, .int .u64 0, .int .u64 0, .int .u64 0, .int .u64 0] 29)); have T_19 := Aside0.mk (blk_new (w6) (.cells #[.int .i64 0, .int .u64 0, .int .u64 0, .int .u64 0, .int .u64 0, .int .u64 0, .int .u64 0, .int .u64 0, .int .u64 0, .int .u64 0, .int .u64 0, .int .u64 0, .int .u64 0, .int .u64 0, .int .u64 0, .int .u64 0, .int .u64 0, .int .u64 0, .int .u64 0, .int .u64 0, .int .u64 0, .int .u64 0, .int .u64 0, .int .u64 0, .int .u64 0, .int .u64 0, .int .u64 0, .int .u64 0, .int .u64 0, .int .u64 0, .int .u64 0, .int .u64 0, .int .u64 0] 29)); have B20 := Aside0.mk (below_alloc B16.out (.cells #[.int .i64 0, .int .u64 0, .int .u64 0, .int .u64 0, .int .u64 0, .int .u64 0, .int .u64 0, .int .u64 0, .int .u64 0, .int .u64 0, .int .u64 0, .int .u64 0, .int .u64 0, .int .u64 0, .int .u64 0, .int .u64 0, .int .u64 0, .int .u64 0, .int .u64 0, .int .u64 0, .int .u64 0, .int .u64 0, .int .u64 0, .int .u64 0, .int .u64 0, .int .u64 0, .int .u64 0, .int .u64 0, .int .u64 0, .int .u64 0, .int .u64 0, .int .u64 0, .int .u64 0] 29)); clear P_14 S_15 B16; have R_21 := Aside0.mk (Kd.R_alloc (R_800.out) (.cells #[.int .i64 0, .int .u64 0, .int .u64 0, .int .u64 0, .int .u64 0, .int .u64 0, .int .u64 0, .int .u64 0, .int .u64 0, .int .u64 0, .int .u64 0, .int .u64 0, .int .u64 0, .int .u64 0, .int .u64 0, .int .u64 0, .int .u64 0, .int .u64 0, .int .u64 0, .int .u64 0, .int .u64 0, .int .u64 0, .int .u64 0, .int .u64 0, .int .u64 0, .int .u64 0, .int .u64 0, .int .u64 0, .int .u64 0, .int .u64 0, .int .u64 0, .int .u64 0, .int .u64 0] 29)); clear R_800)
    | ((with_reducible refine wpSt 29 (.tmp 10) (.tmp 31) ?_); refine store_whole (w := w) (B := w.heap.size) rfl rfl 29 (.tmp 10) (.tmp 31) rfl (g := w6.heap.size) (cs := SV []) rfl _ rfl rfl (stot _) (SV_one _) T_19.out (by first | (rw [SV_size]; done) | (rw [SV_size, SV_size]; done) | (rw [SV_size]; rfl)) L_T.out B20.out ?_; intro w_22 h1 h2 h3 h4; have R_23 := Aside0.mk (row_far26 R_21.out T_19.out (by decide) h3); have P_24 := Aside0.mk ((h3 _ NE_P_T.out).trans P_17.out); have S_25 := Aside0.mk ((h3 _ NE_S_T.out).trans S_18.out); have T_26 := Aside0.mk (h1); have B27 := Aside0.mk (h2); clear h1 h2 h3 h4 R_21 P_17 S_18 T_19 B20))
  have R0 := R_23.out
  rw [List.nil_append] at R0
  obtain ⟨A0, c0, e0, hc0, -⟩ := Kd.R_reads R0
  subst e0
  have R_801 := Aside0.mk R0
  clear R0 R_23
  go_loopg [8, 9, 11] l.length (fun kq v8 v9 v11 w' => ∃ (i : Int) (rest t : List S26) (A1 : Option Addr) (c1 : Nat), v8 = .int .i64 0 ∧ v9 = .slice A1 rest.length c1 ∧ v11 = .int .i64 i ∧ Aside0 (0 ≤ i ∧ i + rest.length = l.length ∧ rest.length = kq ∧ rest.length ≤ c1) ∧ Aside0 (Inv l t rest) ∧ Aside0 (t.length ≤ 16) ∧ Aside0 (Below w.heap.size w w') ∧ Aside0 (w'.heap[w.heap.size]? = some (.cells #[.int .u64 pk, .int .u64 pv] 26 (0, 0))) ∧ Aside0 (w'.heap[w3.heap.size]? = some (.cells (SV s) 29 (0, 0))) ∧ Aside0 (w'.heap[w6.heap.size]? = some (.cells (SV t) 29 (0, 0))) ∧ Aside0 (Kd.R k26 26 w' w.heap.size (fun _ => True) (.slice A1 rest.length c1) rest))
  case atStart => exact ⟨0, l, [], A0, c0, rfl, rfl, rfl, ⟨by have := hc0; omega⟩, ⟨Inv.start Xhrel.out⟩, ⟨by simp⟩, ⟨B27.out⟩, ⟨P_24.out⟩, ⟨S_25.out⟩, ⟨T_26.out⟩, ⟨R_801.out⟩⟩
  case round =>
    clear hc0 R_801 B27 P_24 S_25 T_26
    obtain ⟨i, rest, t, A1, c1, rfl, rfl, rfl, HK, HI, HT, B900, P_900, S_900, T_900, R_900⟩ := hrel
    by_cases hi : (0 : Int) < (rest.length : Int)
    · have d1 : decide ((0 : Int) < (rest.length : Int)) = true := decide_eq_true hi
      have q1 := Aside0.mk (show 0 ≤ i ∧ i < 16 ∧ 0 < rest.length ∧ rest.length ≤ 16 by have := HK.out; have := Xhll.out; omega)
      obtain ⟨ko, rfl⟩ : ∃ m, gk = m + 1 := ⟨gk - 1, by have := HK.out; omega⟩
      have wi : wrap64 (i + 1) = i + 1 := by have := q1.out; unfold wrap64; omega
      have n0_ : (rest.length : Int) ≠ 0 := by omega
      clear hi
      by_cases hp : i < (picks.length : Int)
      · have t1 : decide (i < (picks.length : Int)) = true := decide_eq_true hp
        have p0 : (0 : Int) ≤ i := q1.out.1
        obtain ⟨ap, ea, hx0⟩ := Kd.at_int HCP.out i p0 hp
        subst ea
        generalize rd picks i = x at hx0
        have X0 := Aside0.mk hx0
        have dx0 : wr.cell? (ap.add i.toNat) = some (.int .i64 x) := (B900.out.cell (World.block_lt_of_cell? w _ hx0)).trans hx0
        clear hx0
        have p0b : decide (0 ≤ i) = true := decide_eq_true p0
        replace p0 := eq_true p0
        replace hp := eq_true hp
        have nz := nz_u rest.length q1.out.2.2.1 q1.out.2.2.2
        obtain ⟨a, ha⟩ : ∃ a, wrap64 ((IntKind.u64.wrap x).tmod (IntKind.u64.wrap (rest.length : Int))) = a := ⟨_, rfl⟩
        have HA := Aside0.mk (show 0 ≤ a ∧ a < (rest.length : Int) by rw [← ha]; exact at_lt x rest.length q1.out.2.2.1 q1.out.2.2.2)
        go_wp2_with fail
        rw [ha]
        have p0a := eq_true HA.out.1
        have q0a := eq_true HA.out.2
        have HA3 := Aside0.mk (show a.toNat < rest.length by have := HA.out; omega)
        have qc := eq_true (show a ≤ (c1 : Int) by have := HA.out; have := HK.out; omega)
        have wa : wrap64 (a + 1) = a + 1 := by have := HA.out; have := q1.out; unfold wrap64; omega
        have qd := eq_true (show (0 : Int) ≤ a + 1 by have := HA.out; omega)
        have qe := eq_true (show a + 1 ≤ (rest.length : Int) by have := HA.out; omega)
        have ta : (a + 1).toNat = a.toNat + 1 := by have := HA.out; omega
        obtain ⟨hw0, hI2⟩ := HI.out.step Xhll.out a.toNat HA3.out
        obtain ⟨ad, e0, hx0, hx1⟩ := k26_cells (R_C26 R_900.out) a HA.out.1 HA.out.2 
        subst e0
        generalize rest.getD a.toNat ⟨0, 0⟩ = p at hx0 hx1 hw0 hI2
        obtain ⟨y, zz⟩ := p
        have hle := withV_le t ⟨y, zz⟩ HT.out
        obtain ⟨t2, e2, hwv⟩ : ∃ t2 e2, withV t ⟨y, zz⟩ = (t2, e2) := ⟨_, _, rfl⟩
        rw [hwv] at hw0 hI2 hle
        have hw0 : e2 = 0 := hw0
        subst hw0
        have HWV := Aside0.mk hwv
        have HI2 := Aside0.mk (show Inv l t2 (rest.take a.toNat ++ rest.drop (a.toNat + 1)) from hI2)
        have HT2 := Aside0.mk (show t2.length ≤ 16 from hle)
        have X0 := Aside0.mk (show wr.drew.cell? (ad.add (a.toNat * 2)) = some (.int .u64 y) from hx0)
        have X1 := Aside0.mk (show wr.drew.cell? ⟨(ad.add (a.toNat * 2)).block, (ad.add (a.toNat * 2)).off + 1, none⟩ = some (.int .u64 zz) from hx1)
        clear hx0 hx1 hwv hI2 hle
        refine start_ (n := 11) (S := fun w' => w'.heap[w6.heap.size]? = some (.cells (SV t) 29 (0, 0)) ∧ w'.cell? (ad.add (a.toNat * 2)) = some (.int .u64 y) ∧ w'.cell? ⟨(ad.add (a.toNat * 2)).block, (ad.add (a.toNat * 2)).off + 1, none⟩ = some (.int .u64 zz)) (ds := [9]) #[false, false, false, false, false, false, false, false, false, false, false] (by kernel_rfl) rfl rfl ⟨blk_drew T_900.out, X0.out, X1.out⟩ (fun hHeld => ?_)
        refine pure_ (i := 1) (N := some 53) (v := ?_) (a' := ?_) #[false, true, false, false, false, false, false, false, false, false, false] rfl rfl (by kernel_rfl) (fun _ _ _ h => h) (Or.inl ⟨by rfl, ?_⟩) ?_ ?_
        rotate_left
        · intro w'
          go_simp
          with_reducible rfl
        rotate_left
        · simp only [Act.put, List.setIfInBounds_toArray, List.set_cons_zero, List.set_cons_succ, i64_w, i32_w]
          rfl
        refine pure_ (i := 2) (N := some 54) (v := ?_) (a' := ?_) #[false, true, true, false, false, false, false, false, false, false, false] rfl rfl (by kernel_rfl) (fun _ _ _ h => h) (Or.inl ⟨by rfl, ?_⟩) ?_ ?_
        rotate_left
        · intro w'
          go_simp
          with_reducible rfl
        rotate_left
        · simp only [Act.put, List.setIfInBounds_toArray, List.set_cons_zero, List.set_cons_succ, i64_w, i32_w]
          rfl
        refine pure_ (i := 3) (N := some 55) (v := ?_) (a' := ?_) #[false, true, true, true, false, false, false, false, false, false, false] rfl rfl (by kernel_rfl) (fun _ _ _ h => h) (Or.inl ⟨by rfl, ?_⟩) ?_ ?_
        rotate_left
        · intro w'
          go_simp
          with_reducible rfl
        rotate_left
        · simp only [Act.put, List.setIfInBounds_toArray, List.set_cons_zero, List.set_cons_succ, i64_w, i32_w]
          rfl
        refine take_ (i := 0) (N := some 52) (v := ?_) (a' := ?_) #[true, true, true, true, false, false, false, false, false, false, false] rfl rfl (by kernel_rfl) (fun _ _ _ h => h) (Or.inl ⟨by rfl, ?_⟩) hHeld ?_ ?_
        rotate_left
        · rintro w' ⟨s0, s1, s2⟩
          refine exec_load_row 29 (.tmp 10) ?_ _ ?_ 29 (SV t) (0, 0) _ s0 Try.underlying29 rfl (info29 _) <;> rfl
        rotate_left
        · simp only [Act.put, List.setIfInBounds_toArray, List.set_cons_zero, List.set_cons_succ, i64_w, i32_w]
          rfl
        refine take_ (i := 4) (N := some 56) (v := ?_) (a' := ?_) #[true, true, true, true, true, false, false, false, false, false, false] rfl rfl (by kernel_rfl) (fun _ _ _ h => h) (Or.inl ⟨by rfl, ?_⟩) hHeld ?_ ?_
        rotate_left
        · rintro w' ⟨s0, s1, s2⟩
          go_simp
          with_reducible rfl
        rotate_left
        · simp only [Act.put, List.setIfInBounds_toArray, List.set_cons_zero, List.set_cons_succ, i64_w, i32_w]
          rfl
        refine one_ (i := 5) (N := some 57) #[true, true, true, true, true, true, false, false, false, false, false] rfl rfl (by kernel_rfl) (by decide) (fun K hK => ?_)
        refine goes_ Try.func15 (by kernel_rfl) rfl #[.agg (SV t), .agg #[.int .u64 y, .int .u64 zz]] (by rfl) rfl rfl (by simp only [List.map_toArray, List.map_cons, List.map_nil]; rfl) ?_
        with_reducible refine (with_T t ⟨y, zz⟩ _ HT.out).mono ?_
        rintro e_ w10 ⟨rfl, hb⟩
        rw [HWV.out]
        refine ⟨_, rfl, ?_⟩
        have P_901 := Aside0.mk (blk_below (blk_drew P_900.out) hb)
        have S_902 := Aside0.mk (blk_below (blk_drew S_900.out) hb)
        have T_903 := Aside0.mk (blk_below (blk_drew T_900.out) hb)
        have R_904 := Aside0.mk (Kd.R_below (Kd.R_drew R_900.out) hb)
        have Y0 := Aside0.mk ((hb.cell (World.block_lt_of_cell? _ _ X0.out)).trans X0.out)
        have Y1 := Aside0.mk ((hb.cell (World.block_lt_of_cell? _ _ X1.out)).trans X1.out)
        have B905 := Aside0.mk (below_step (below_drew B900.out) hb)
        clear hb P_900 S_900 T_900 R_900 B900
        refine hK.out _ _ ⟨T_903.out, Y0.out, Y1.out⟩ (fun hHeld => ?_)
        clear hK K
        refine norm_ (a' := ?_) ?_ ?_
        rotate_left
        · show Act.put _ (some 57) _ = _
          simp only [Act.put, List.setIfInBounds_toArray, List.set_cons_zero, List.set_cons_succ, i64_w, i32_w]
          rfl
        refine pure_ (i := 6) (N := some 51) (v := ?_) (a' := ?_) #[true, true, true, true, true, true, true, false, false, false, false] rfl rfl (by kernel_rfl) (fun _ _ _ h => h) (Or.inl ⟨by rfl, ?_⟩) ?_ ?_
        rotate_left
        · intro w'
          go_simp
          with_reducible rfl
        rotate_left
        · simp only [Act.put, List.setIfInBounds_toArray, List.set_cons_zero, List.set_cons_succ, i64_w, i32_w]
          rfl
        refine pure_ (i := 7) (N := some 58) (v := ?_) (a' := ?_) #[true, true, true, true, true, true, true, true, false, false, false] rfl rfl (by kernel_rfl) (fun _ _ _ h => h) (Or.inl ⟨by rfl, ?_⟩) ?_ ?_
        rotate_left
        · intro w'
          go_simp
          with_reducible rfl
        rotate_left
        · simp only [Act.put, List.setIfInBounds_toArray, List.set_cons_zero, List.set_cons_succ, i64_w, i32_w]
          rfl
        refine pure_ (i := 8) (N := some 59) (v := ?_) (a' := ?_) #[true, true, true, true, true, true, true, true, true, false, false] rfl rfl (by kernel_rfl) (fun _ _ _ h => h) (Or.inl ⟨by rfl, ?_⟩) ?_ ?_
        rotate_left
        · intro w'
          go_simp
          with_reducible rfl
        rotate_left
        · simp only [Act.put, List.setIfInBounds_toArray, List.set_cons_zero, List.set_cons_succ, i64_w, i32_w]
          rfl
        refine last_ (i := 9) (N := none) #[true, true, true, true, true, true, true, true, true, true, false] rfl rfl (by kernel_rfl) (by decide) (fun K hK => ?_)
        refine skip_whole (w := w) (B := w.heap.size) 29 (.tmp 10) (.tmp 58) (by rfl) rfl rfl (g := w6.heap.size) (cs := SV t2) ?_ (.agg (SV t2)) ?_ rfl (stot _) (SV_one _) (T_903.out) (by first | (rw [SV_size]; done) | (rw [SV_size, SV_size]; done) | (rw [SV_size]; rfl)) L_T.out (B905.out) ?_
        · rfl
        · rfl
        intro w11 h1 h2 h3 h4
        have R_906 := Aside0.mk (row_far26 R_904.out T_903.out (by decide) h3)
        have P_907 := Aside0.mk ((h3 _ NE_P_T.out).trans P_901.out)
        have S_908 := Aside0.mk ((h3 _ NE_S_T.out).trans S_902.out)
        have T_909 := Aside0.mk (h1)
        have B910 := Aside0.mk (h2)
        clear h1 h2 h3 h4 R_904 P_901 S_902 T_903 B905
        refine hK.out _ _ ?_
        clear hK K
        refine pure_ (i := 10) (N := some 8) (v := ?_) (a' := ?_) #[true, true, true, true, true, true, true, true, true, true, true] rfl rfl (by kernel_rfl) (fun _ _ _ h => h) (Or.inl ⟨by rfl, ?_⟩) ?_ ?_
        rotate_left
        · intro w'
          go_simp
          with_reducible rfl
        rotate_left
        · simp only [Act.put, List.setIfInBounds_toArray, List.set_cons_zero, List.set_cons_succ, i64_w, i32_w]
          rfl
        refine done_ (by kernel_rfl) ?_
        go_wp2_with fail
        refine start_ (n := 11) (S := fun w' => True) (ds := [9]) #[false, false, false, false, false, false, false, false, false, false, false] (by kernel_rfl) rfl rfl trivial (fun hHeld => ?_)
        refine pure_ (i := 1) (N := some 63) (v := ?_) (a' := ?_) #[false, true, false, false, false, false, false, false, false, false, false] rfl rfl (by kernel_rfl) (fun _ _ _ h => h) (Or.inl ⟨by rfl, ?_⟩) ?_ ?_
        rotate_left
        · intro w'
          go_simp
          with_reducible rfl
        rotate_left
        · simp only [Act.put, List.setIfInBounds_toArray, List.set_cons_zero, List.set_cons_succ, i64_w, i32_w]
          rfl
        refine pure_ (i := 2) (N := some 64) (v := ?_) (a' := ?_) #[false, true, true, false, false, false, false, false, false, false, false] rfl rfl (by kernel_rfl) (fun _ _ _ h => h) (Or.inl ⟨by rfl, ?_⟩) ?_ ?_
        rotate_left
        · intro w'
          go_simp
          with_reducible rfl
        rotate_left
        · simp only [Act.put, List.setIfInBounds_toArray, List.set_cons_zero, List.set_cons_succ, i64_w, i32_w]
          rfl
        refine pure_ (i := 3) (N := some 65) (v := ?_) (a' := ?_) #[false, true, true, true, false, false, false, false, false, false, false] rfl rfl (by kernel_rfl) (fun _ _ _ h => h) (Or.inl ⟨by rfl, ?_⟩) ?_ ?_
        rotate_left
        · intro w'
          go_simp
          with_reducible rfl
        rotate_left
        · simp only [Act.put, List.setIfInBounds_toArray, List.set_cons_zero, List.set_cons_succ, i64_w, i32_w]
          rfl
        refine pure_ (i := 5) (N := some 67) (v := ?_) (a' := ?_) #[false, true, true, true, false, true, false, false, false, false, false] rfl rfl (by kernel_rfl) (fun _ _ _ h => h) (Or.inl ⟨by rfl, ?_⟩) ?_ ?_
        rotate_left
        · intro w'
          go_simp
          with_reducible rfl
        rotate_left
        · simp only [Act.put, List.setIfInBounds_toArray, List.set_cons_zero, List.set_cons_succ, i64_w, i32_w]
          rfl
        refine pure_ (i := 6) (N := some 68) (v := ?_) (a' := ?_) #[false, true, true, true, false, true, true, false, false, false, false] rfl rfl (by kernel_rfl) (fun _ _ _ h => h) (Or.inl ⟨by rfl, ?_⟩) ?_ ?_
        rotate_left
        · intro w'
          go_simp
          with_reducible rfl
        rotate_left
        · simp only [Act.put, List.setIfInBounds_toArray, List.set_cons_zero, List.set_cons_succ, i64_w, i32_w]
          rfl
        refine pure_ (i := 7) (N := some 69) (v := ?_) (a' := ?_) #[false, true, true, true, false, true, true, true, false, false, false] rfl rfl (by kernel_rfl) (fun _ _ _ h => h) (Or.inl ⟨by rfl, ?_⟩) ?_ ?_
        rotate_left
        · intro w'
          go_simp
          with_reducible rfl
        rotate_left
        · simp only [Act.put, List.setIfInBounds_toArray, List.set_cons_zero, List.set_cons_succ, i64_w, i32_w]
          rfl
        refine pure_ (i := 8) (N := some 70) (v := ?_) (a' := ?_) #[false, true, true, true, false, true, true, true, true, false, false] rfl rfl (by kernel_rfl) (fun _ _ _ h => h) (Or.inl ⟨by rfl, ?_⟩) ?_ ?_
        rotate_left
        · intro w'
          go_simp
          with_reducible rfl
        rotate_left
        · simp only [Act.put, List.setIfInBounds_toArray, List.set_cons_zero, List.set_cons_succ, i64_w, i32_w]
          rfl
        refine one_ (i := 0) (N := some 62) #[true, true, true, true, false, true, true, true, true, false, false] rfl rfl (by kernel_rfl) (by decide) (fun K hK => ?_)
        refine Kd.R_lit_step k26 (w0 := w11.drew) w11.drew.heap.size 26 ?hw (N := 62) ?hd (xs := ([] : List S26)) (inner := []) (ok := fun k => w11.drew.heap.size ≤ k) (okp := fun _ => False) ?hr ?hp (fun _ hk => hk.elim) (Nat.le_refl _) (Below.refl _ _) (Nat.le_refl _) (by simp) ?_; (case hd => rfl); (case hw => rfl); (case hr => first | (go_simp; done) | (go_simp; rfl)); (case hp => exact (Reps.none _ _))
        intro v62 w12 ho12 hb12 hg_ hnew_
        have HO12 := Aside0.mk ho12
        have HB12 := Aside0.mk hb12
        clear ho12 hb12 hg_ hnew_
        refine hK.out _ _ trivial (fun hHeld => ?_)
        clear hK K
        refine norm_ (a' := ?_) ?_ ?_
        rotate_left
        · show Act.put _ (some 62) _ = _
          simp only [Act.put, List.setIfInBounds_toArray, List.set_cons_zero, List.set_cons_succ, i64_w, i32_w]
          rfl
        refine one_ (i := 4) (N := some 66) #[true, true, true, true, true, true, true, true, true, false, false] rfl rfl (by kernel_rfl) (by decide) (fun K hK => ?_)
        refine Kd.R_append_rows_step k26 (Rr := k26.K w12) (w0 := w11.drew) w11.drew.heap.size (by rfl) (.tmp 62) (.tmp 65) 46 26 (.agg #[(.int .u64 0), (.int .u64 0)]) 16 rfl Try.underlying46 inf26 rfl (by decide) (by omega) v62 [] (rest.take a.toNat) _ _ _ (fun k => w11.drew.heap.size ≤ k) (fun _ => False) rfl rfl HO12.out ?aR (fun _ _ h => h) (fun _ h => h.elim) (fun k hk => Nat.le_trans HB12.out.size hk) HB12.out HB12.out.size ?aL ?_
        (case aR => have h1 := HA3.out; have h := Kd.C_take (k := k26) (m := a.toNat) (Kd.C_below (R_C26 (Kd.R_drew R_906.out)) HB12.out) (by omega); rw [show (List.take a.toNat rest).length = a.toNat by first | (simp; done) | (simp; omega)] at h; exact h)
        (case aL => have := q1.out; have := HA3.out; first | (simp; done) | (simp; omega))
        intro v66 w13 ho13 hb13 hg_ hat_
        have HO13 := Aside0.mk ho13
        have HB13 := Aside0.mk hb13
        clear ho13 hb13 hg_ hat_ HO12 HB12
        refine hK.out _ _ trivial (fun hHeld => ?_)
        clear hK K
        refine norm_ (a' := ?_) ?_ ?_
        rotate_left
        · show Act.put _ (some 66) _ = _
          simp only [Act.put, List.setIfInBounds_toArray, List.set_cons_zero, List.set_cons_succ, i64_w, i32_w]
          rfl
        refine last_ (i := 9) (N := some 71) #[true, true, true, true, true, true, true, true, true, true, false] rfl rfl (by kernel_rfl) (by decide) (fun K hK => ?_)
        refine Kd.R_append_rows_step k26 (Rr := k26.K w13) (w0 := w11.drew) w11.drew.heap.size (by rfl) (.tmp 66) (.tmp 70) 46 26 (.agg #[(.int .u64 0), (.int .u64 0)]) 16 rfl Try.underlying46 inf26 rfl (by decide) (by omega) v66 ([] ++ rest.take a.toNat) (rest.drop (a.toNat + 1)) _ _ _ (fun k => w11.drew.heap.size ≤ k) (fun _ => False) rfl rfl HO13.out ?aR (fun _ _ h => h) (fun _ h => h.elim) (fun k hk => Nat.le_trans HB13.out.size hk) HB13.out HB13.out.size ?aL ?_
        (case aR => have h1 := HA3.out; have h := Kd.C_drop (k := k26) (m := a.toNat + 1) (Kd.C_below (R_C26 (Kd.R_drew R_906.out)) HB13.out) (by omega) (show rest.length ≤ c1 by have := HK.out; omega); rw [show (List.drop (a.toNat + 1) rest).length = rest.length - (a.toNat + 1) by simp] at h; exact h)
        (case aL => have := q1.out; have := HA3.out; first | (simp; done) | (simp; omega))
        intro v71 w14 ho13 hb13 hg_ hat_
        have HO14 := Aside0.mk ho13
        have HB14 := Aside0.mk hb13
        clear ho13 hb13 hg_ hat_ HO13 HB13
        refine hK.out _ _ ?_
        clear hK K
        refine norm_ (a' := ?_) ?_ ?_
        rotate_left
        · show Act.put _ (some 71) _ = _
          simp only [Act.put, List.setIfInBounds_toArray, List.set_cons_zero, List.set_cons_succ, i64_w, i32_w]
          rfl
        refine pure_ (i := 10) (N := some 9) (v := ?_) (a' := ?_) #[true, true, true, true, true, true, true, true, true, true, true] rfl rfl (by kernel_rfl) (fun _ _ _ h => h) (Or.inl ⟨by rfl, ?_⟩) ?_ ?_
        rotate_left
        · intro w'
          go_simp
          with_reducible rfl
        rotate_left
        · simp only [Act.put, List.setIfInBounds_toArray, List.set_cons_zero, List.set_cons_succ, i64_w, i32_w]
          rfl
        refine done_ (by kernel_rfl) ?_
        have ho71 := HO14.out
        rw [List.nil_append] at ho71
        have HLN := Aside0.mk (show (rest.take a.toNat ++ rest.drop (a.toNat + 1)).length + 1 = rest.length by have := HA3.out; simp; omega)
        generalize (rest.take a.toNat ++ rest.drop (a.toNat + 1)) = rest2 at ho71 HI2 HLN
        obtain ⟨A2, c2, e71, hc2, -⟩ := Kd.R_reads ho71
        subst e71
        have R_990 := Aside0.mk (Kd.R_mono (ok' := fun _ => True) (Kd.R_lower ho71 (below_drew B910.out).size) (fun _ _ => trivial))
        have hb := HB14.out
        clear ho71 HO14
        have P_911 := Aside0.mk (blk_below (blk_drew P_907.out) hb)
        have S_912 := Aside0.mk (blk_below (blk_drew S_908.out) hb)
        have T_913 := Aside0.mk (blk_below (blk_drew T_909.out) hb)
        have B914 := Aside0.mk (below_step (below_drew B910.out) hb)
        go_wp2_with fail
        all_goals
          go_roundg ko
          case rel => exact ⟨i + 1, rest2, t2, A2, c2, rfl, rfl, by first | rfl | rw [wi], ⟨by have := HK.out; have := HLN.out; have := hc2; omega⟩, HI2, HT2, ⟨B914.out⟩, ⟨P_911.out⟩, ⟨S_912.out⟩, ⟨T_913.out⟩, R_990⟩
          case measure => exact Nat.lt_succ_self _
      · have t1 : decide (i < (picks.length : Int)) = false := decide_eq_false hp
        go_wp2_with fail
        have HA3 := Aside0.mk q1.out.2.2.1
        have q0a := eq_true (show (0 : Int) < (rest.length : Int) by have := q1.out; omega)
        have w1 : wrap64 1 = 1 := by unfold wrap64; omega
        have qe := eq_true (show (1 : Int) ≤ (rest.length : Int) by have := q1.out; omega)
        obtain ⟨hw0, hI2⟩ := HI.out.step Xhll.out 0 HA3.out
        obtain ⟨ad, e0, hx0, hx1⟩ := k26_cells (R_C26 R_900.out) 0 (Int.le_refl 0) (by have := q1.out; omega) 
        subst e0
        simp only [Int.toNat_zero, Nat.zero_mul] at hx0 hx1
        rw [show ad.add 0 = ad by unfold Addr.add; simp] at hx0 hx1
        generalize rest.getD 0 ⟨0, 0⟩ = p at hx0 hx1 hw0 hI2
        obtain ⟨y, zz⟩ := p
        have hle := withV_le t ⟨y, zz⟩ HT.out
        obtain ⟨t2, e2, hwv⟩ : ∃ t2 e2, withV t ⟨y, zz⟩ = (t2, e2) := ⟨_, _, rfl⟩
        rw [hwv] at hw0 hI2 hle
        have hw0 : e2 = 0 := hw0
        subst hw0
        have HWV := Aside0.mk hwv
        have HI2 := Aside0.mk (show Inv l t2 (rest.take 0 ++ rest.drop (0 + 1)) from hI2)
        have HT2 := Aside0.mk (show t2.length ≤ 16 from hle)
        have X0 := Aside0.mk (show wr.drew.cell? ad = some (.int .u64 y) from hx0)
        have X1 := Aside0.mk (show wr.drew.cell? ⟨ad.block, ad.off + 1, none⟩ = some (.int .u64 zz) from hx1)
        clear hx0 hx1 hwv hI2 hle
        refine start_ (n := 11) (S := fun w' => w'.heap[w6.heap.size]? = some (.cells (SV t) 29 (0, 0)) ∧ w'.cell? ad = some (.int .u64 y) ∧ w'.cell? ⟨ad.block, ad.off + 1, none⟩ = some (.int .u64 zz)) (ds := [9]) #[false, false, false, false, false, false, false, false, false, false, false] (by kernel_rfl) rfl rfl ⟨blk_drew T_900.out, X0.out, X1.out⟩ (fun hHeld => ?_)
        refine pure_ (i := 1) (N := some 53) (v := ?_) (a' := ?_) #[false, true, false, false, false, false, false, false, false, false, false] rfl rfl (by kernel_rfl) (fun _ _ _ h => h) (Or.inl ⟨by rfl, ?_⟩) ?_ ?_
        rotate_left
        · intro w'
          go_simp
          with_reducible rfl
        rotate_left
        · simp only [Act.put, List.setIfInBounds_toArray, List.set_cons_zero, List.set_cons_succ, i64_w, i32_w]
          rfl
        refine pure_ (i := 2) (N := some 54) (v := ?_) (a' := ?_) #[false, true, true, false, false, false, false, false, false, false, false] rfl rfl (by kernel_rfl) (fun _ _ _ h => h) (Or.inl ⟨by rfl, ?_⟩) ?_ ?_
        rotate_left
        · intro w'
          go_simp
          with_reducible rfl
        rotate_left
        · simp only [Act.put, List.setIfInBounds_toArray, List.set_cons_zero, List.set_cons_succ, i64_w, i32_w]
          rfl
        refine pure_ (i := 3) (N := some 55) (v := ?_) (a' := ?_) #[false, true, true, true, false, false, false, false, false, false, false] rfl rfl (by kernel_rfl) (fun _ _ _ h => h) (Or.inl ⟨by rfl, ?_⟩) ?_ ?_
        rotate_left
        · intro w'
          go_simp
          with_reducible rfl
        rotate_left
        · simp only [Act.put, List.setIfInBounds_toArray, List.set_cons_zero, List.set_cons_succ, i64_w, i32_w]
          rfl
        refine take_ (i := 0) (N := some 52) (v := ?_) (a' := ?_) #[true, true, true, true, false, false, false, false, false, false, false] rfl rfl (by kernel_rfl) (fun _ _ _ h => h) (Or.inl ⟨by rfl, ?_⟩) hHeld ?_ ?_
        rotate_left
        · rintro w' ⟨s0, s1, s2⟩
          refine exec_load_row 29 (.tmp 10) ?_ _ ?_ 29 (SV t) (0, 0) _ s0 Try.underlying29 rfl (info29 _) <;> rfl
        rotate_left
        · simp only [Act.put, List.setIfInBounds_toArray, List.set_cons_zero, List.set_cons_succ, i64_w, i32_w]
          rfl
        refine take_ (i := 4) (N := some 56) (v := ?_) (a' := ?_) #[true, true, true, true, true, false, false, false, false, false, false] rfl rfl (by kernel_rfl) (fun _ _ _ h => h) (Or.inl ⟨by rfl, ?_⟩) hHeld ?_ ?_
        rotate_left
        · rintro w' ⟨s0, s1, s2⟩
          go_simp
          with_reducible rfl
        rotate_left
        · simp only [Act.put, List.setIfInBounds_toArray, List.set_cons_zero, List.set_cons_succ, i64_w, i32_w]
          rfl
        refine one_ (i := 5) (N := some 57) #[true, true, true, true, true, true, false, false, false, false, false] rfl rfl (by kernel_rfl) (by decide) (fun K hK => ?_)
        refine goes_ Try.func15 (by kernel_rfl) rfl #[.agg (SV t), .agg #[.int .u64 y, .int .u64 zz]] (by rfl) rfl rfl (by simp only [List.map_toArray, List.map_cons, List.map_nil]; rfl) ?_
        with_reducible refine (with_T t ⟨y, zz⟩ _ HT.out).mono ?_
        rintro e_ w10 ⟨rfl, hb⟩
        rw [HWV.out]
        refine ⟨_, rfl, ?_⟩
        have P_901 := Aside0.mk (blk_below (blk_drew P_900.out) hb)
        have S_902 := Aside0.mk (blk_below (blk_drew S_900.out) hb)
        have T_903 := Aside0.mk (blk_below (blk_drew T_900.out) hb)
        have R_904 := Aside0.mk (Kd.R_below (Kd.R_drew R_900.out) hb)
        have Y0 := Aside0.mk ((hb.cell (World.block_lt_of_cell? _ _ X0.out)).trans X0.out)
        have Y1 := Aside0.mk ((hb.cell (World.block_lt_of_cell? _ _ X1.out)).trans X1.out)
        have B905 := Aside0.mk (below_step (below_drew B900.out) hb)
        clear hb P_900 S_900 T_900 R_900 B900
        refine hK.out _ _ ⟨T_903.out, Y0.out, Y1.out⟩ (fun hHeld => ?_)
        clear hK K
        refine norm_ (a' := ?_) ?_ ?_
        rotate_left
        · show Act.put _ (some 57) _ = _
          simp only [Act.put, List.setIfInBounds_toArray, List.set_cons_zero, List.set_cons_succ, i64_w, i32_w]
          rfl
        refine pure_ (i := 6) (N := some 51) (v := ?_) (a' := ?_) #[true, true, true, true, true, true, true, false, false, false, false] rfl rfl (by kernel_rfl) (fun _ _ _ h => h) (Or.inl ⟨by rfl, ?_⟩) ?_ ?_
        rotate_left
        · intro w'
          go_simp
          with_reducible rfl
        rotate_left
        · simp only [Act.put, List.setIfInBounds_toArray, List.set_cons_zero, List.set_cons_succ, i64_w, i32_w]
          rfl
        refine pure_ (i := 7) (N := some 58) (v := ?_) (a' := ?_) #[true, true, true, true, true, true, true, true, false, false, false] rfl rfl (by kernel_rfl) (fun _ _ _ h => h) (Or.inl ⟨by rfl, ?_⟩) ?_ ?_
        rotate_left
        · intro w'
          go_simp
          with_reducible rfl
        rotate_left
        · simp only [Act.put, List.setIfInBounds_toArray, List.set_cons_zero, List.set_cons_succ, i64_w, i32_w]
          rfl
        refine pure_ (i := 8) (N := some 59) (v := ?_) (a' := ?_) #[true, true, true, true, true, true, true, true, true, false, false] rfl rfl (by kernel_rfl) (fun _ _ _ h => h) (Or.inl ⟨by rfl, ?_⟩) ?_ ?_
        rotate_left
        · intro w'
          go_simp
          with_reducible rfl
        rotate_left
        · simp only [Act.put, List.setIfInBounds_toArray, List.set_cons_zero, List.set_cons_succ, i64_w, i32_w]
          rfl
        refine last_ (i := 9) (N := none) #[true, true, true, true, true, true, true, true, true, true, false] rfl rfl (by kernel_rfl) (by decide) (fun K hK => ?_)
        refine skip_whole (w := w) (B := w.heap.size) 29 (.tmp 10) (.tmp 58) (by rfl) rfl rfl (g := w6.heap.size) (cs := SV t2) ?_ (.agg (SV t2)) ?_ rfl (stot _) (SV_one _) (T_903.out) (by first | (rw [SV_size]; done) | (rw [SV_size, SV_size]; done) | (rw [SV_size]; rfl)) L_T.out (B905.out) ?_
        · rfl
        · rfl
        intro w11 h1 h2 h3 h4
        have R_906 := Aside0.mk (row_far26 R_904.out T_903.out (by decide) h3)
        have P_907 := Aside0.mk ((h3 _ NE_P_T.out).trans P_901.out)
        have S_908 := Aside0.mk ((h3 _ NE_S_T.out).trans S_902.out)
        have T_909 := Aside0.mk (h1)
        have B910 := Aside0.mk (h2)
        clear h1 h2 h3 h4 R_904 P_901 S_902 T_903 B905
        refine hK.out _ _ ?_
        clear hK K
        refine pure_ (i := 10) (N := some 8) (v := ?_) (a' := ?_) #[true, true, true, true, true, true, true, true, true, true, true] rfl rfl (by kernel_rfl) (fun _ _ _ h => h) (Or.inl ⟨by rfl, ?_⟩) ?_ ?_
        rotate_left
        · intro w'
          go_simp
          with_reducible rfl
        rotate_left
        · simp only [Act.put, List.setIfInBounds_toArray, List.set_cons_zero, List.set_cons_succ, i64_w, i32_w]
          rfl
        refine done_ (by kernel_rfl) ?_
        go_wp2_with fail
        refine start_ (n := 11) (S := fun w' => True) (ds := [9]) #[false, false, false, false, false, false, false, false, false, false, false] (by kernel_rfl) rfl rfl trivial (fun hHeld => ?_)
        refine pure_ (i := 1) (N := some 63) (v := ?_) (a' := ?_) #[false, true, false, false, false, false, false, false, false, false, false] rfl rfl (by kernel_rfl) (fun _ _ _ h => h) (Or.inl ⟨by rfl, ?_⟩) ?_ ?_
        rotate_left
        · intro w'
          go_simp
          with_reducible rfl
        rotate_left
        · simp only [Act.put, List.setIfInBounds_toArray, List.set_cons_zero, List.set_cons_succ, i64_w, i32_w]
          rfl
        refine pure_ (i := 2) (N := some 64) (v := ?_) (a' := ?_) #[false, true, true, false, false, false, false, false, false, false, false] rfl rfl (by kernel_rfl) (fun _ _ _ h => h) (Or.inl ⟨by rfl, ?_⟩) ?_ ?_
        rotate_left
        · intro w'
          go_simp
          with_reducible rfl
        rotate_left
        · simp only [Act.put, List.setIfInBounds_toArray, List.set_cons_zero, List.set_cons_succ, i64_w, i32_w]
          rfl
        refine pure_ (i := 3) (N := some 65) (v := ?_) (a' := ?_) #[false, true, true, true, false, false, false, false, false, false, false] rfl rfl (by kernel_rfl) (fun _ _ _ h => h) (Or.inl ⟨by rfl, ?_⟩) ?_ ?_
        rotate_left
        · intro w'
          go_simp
          with_reducible rfl
        rotate_left
        · simp only [Act.put, List.setIfInBounds_toArray, List.set_cons_zero, List.set_cons_succ, i64_w, i32_w]
          rfl
        refine pure_ (i := 5) (N := some 67) (v := ?_) (a' := ?_) #[false, true, true, true, false, true, false, false, false, false, false] rfl rfl (by kernel_rfl) (fun _ _ _ h => h) (Or.inl ⟨by rfl, ?_⟩) ?_ ?_
        rotate_left
        · intro w'
          go_simp
          with_reducible rfl
        rotate_left
        · simp only [Act.put, List.setIfInBounds_toArray, List.set_cons_zero, List.set_cons_succ, i64_w, i32_w]
          rfl
        refine pure_ (i := 6) (N := some 68) (v := ?_) (a' := ?_) #[false, true, true, true, false, true, true, false, false, false, false] rfl rfl (by kernel_rfl) (fun _ _ _ h => h) (Or.inl ⟨by rfl, ?_⟩) ?_ ?_
        rotate_left
        · intro w'
          go_simp
          with_reducible rfl
        rotate_left
        · simp only [Act.put, List.setIfInBounds_toArray, List.set_cons_zero, List.set_cons_succ, i64_w, i32_w]
          rfl
        refine pure_ (i := 7) (N := some 69) (v := ?_) (a' := ?_) #[false, true, true, true, false, true, true, true, false, false, false] rfl rfl (by kernel_rfl) (fun _ _ _ h => h) (Or.inl ⟨by rfl, ?_⟩) ?_ ?_
        rotate_left
        · intro w'
          go_simp
          with_reducible rfl
        rotate_left
        · simp only [Act.put, List.setIfInBounds_toArray, List.set_cons_zero, List.set_cons_succ, i64_w, i32_w]
          rfl
        refine pure_ (i := 8) (N := some 70) (v := ?_) (a' := ?_) #[false, true, true, true, false, true, true, true, true, false, false] rfl rfl (by kernel_rfl) (fun _ _ _ h => h) (Or.inl ⟨by rfl, ?_⟩) ?_ ?_
        rotate_left
        · intro w'
          go_simp
          with_reducible rfl
        rotate_left
        · simp only [Act.put, List.setIfInBounds_toArray, List.set_cons_zero, List.set_cons_succ, i64_w, i32_w]
          rfl
        refine one_ (i := 0) (N := some 62) #[true, true, true, true, false, true, true, true, true, false, false] rfl rfl (by kernel_rfl) (by decide) (fun K hK => ?_)
        refine Kd.R_lit_step k26 (w0 := w11.drew) w11.drew.heap.size 26 ?hw (N := 62) ?hd (xs := ([] : List S26)) (inner := []) (ok := fun k => w11.drew.heap.size ≤ k) (okp := fun _ => False) ?hr ?hp (fun _ hk => hk.elim) (Nat.le_refl _) (Below.refl _ _) (Nat.le_refl _) (by simp) ?_; (case hd => rfl); (case hw => rfl); (case hr => first | (go_simp; done) | (go_simp; rfl)); (case hp => exact (Reps.none _ _))
        intro v62 w12 ho12 hb12 hg_ hnew_
        have HO12 := Aside0.mk ho12
        have HB12 := Aside0.mk hb12
        clear ho12 hb12 hg_ hnew_
        refine hK.out _ _ trivial (fun hHeld => ?_)
        clear hK K
        refine norm_ (a' := ?_) ?_ ?_
        rotate_left
        · show Act.put _ (some 62) _ = _
          simp only [Act.put, List.setIfInBounds_toArray, List.set_cons_zero, List.set_cons_succ, i64_w, i32_w]
          rfl
        refine one_ (i := 4) (N := some 66) #[true, true, true, true, true, true, true, true, true, false, false] rfl rfl (by kernel_rfl) (by decide) (fun K hK => ?_)
        refine Kd.R_append_rows_step k26 (Rr := k26.K w12) (w0 := w11.drew) w11.drew.heap.size (by rfl) (.tmp 62) (.tmp 65) 46 26 (.agg #[(.int .u64 0), (.int .u64 0)]) 16 rfl Try.underlying46 inf26 rfl (by decide) (by omega) v62 [] (rest.take 0) _ _ _ (fun k => w11.drew.heap.size ≤ k) (fun _ => False) rfl rfl HO12.out ?aR (fun _ _ h => h) (fun _ h => h.elim) (fun k hk => Nat.le_trans HB12.out.size hk) HB12.out HB12.out.size ?aL ?_
        (case aR => have h1 := HA3.out; have h := Kd.C_take (k := k26) (m := 0) (Kd.C_below (R_C26 (Kd.R_drew R_906.out)) HB12.out) (by omega); rw [show (List.take 0 rest).length = 0 by first | (simp; done) | (simp; omega)] at h; exact h)
        (case aL => have := q1.out; have := HA3.out; first | (simp; done) | (simp; omega))
        intro v66 w13 ho13 hb13 hg_ hat_
        have HO13 := Aside0.mk ho13
        have HB13 := Aside0.mk hb13
        clear ho13 hb13 hg_ hat_ HO12 HB12
        refine hK.out _ _ trivial (fun hHeld => ?_)
        clear hK K
        refine norm_ (a' := ?_) ?_ ?_
        rotate_left
        · show Act.put _ (some 66) _ = _
          simp only [Act.put, List.setIfInBounds_toArray, List.set_cons_zero, List.set_cons_succ, i64_w, i32_w]
          rfl
        refine last_ (i := 9) (N := some 71) #[true, true, true, true, true, true, true, true, true, true, false] rfl rfl (by kernel_rfl) (by decide) (fun K hK => ?_)
        refine Kd.R_append_rows_step k26 (Rr := k26.K w13) (w0 := w11.drew) w11.drew.heap.size (by rfl) (.tmp 66) (.tmp 70) 46 26 (.agg #[(.int .u64 0), (.int .u64 0)]) 16 rfl Try.underlying46 inf26 rfl (by decide) (by omega) v66 ([] ++ rest.take 0) (rest.drop (0 + 1)) _ _ _ (fun k => w11.drew.heap.size ≤ k) (fun _ => False) rfl rfl HO13.out ?aR (fun _ _ h => h) (fun _ h => h.elim) (fun k hk => Nat.le_trans HB13.out.size hk) HB13.out HB13.out.size ?aL ?_
        (case aR => have h1 := HA3.out; have h := Kd.C_drop (k := k26) (m := 0 + 1) (Kd.C_below (R_C26 (Kd.R_drew R_906.out)) HB13.out) (by omega) (show rest.length ≤ c1 by have := HK.out; omega); rw [show (List.drop (0 + 1) rest).length = rest.length - (0 + 1) by simp] at h; exact h)
        (case aL => have := q1.out; have := HA3.out; first | (simp; done) | (simp; omega))
        intro v71 w14 ho13 hb13 hg_ hat_
        have HO14 := Aside0.mk ho13
        have HB14 := Aside0.mk hb13
        clear ho13 hb13 hg_ hat_ HO13 HB13
        refine hK.out _ _ ?_
        clear hK K
        refine norm_ (a' := ?_) ?_ ?_
        rotate_left
        · show Act.put _ (some 71) _ = _
          simp only [Act.put, List.setIfInBounds_toArray, List.set_cons_zero, List.set_cons_succ, i64_w, i32_w]
          rfl
        refine pure_ (i := 10) (N := some 9) (v := ?_) (a' := ?_) #[true, true, true, true, true, true, true, true, true, true, true] rfl rfl (by kernel_rfl) (fun _ _ _ h => h) (Or.inl ⟨by rfl, ?_⟩) ?_ ?_
        rotate_left
        · intro w'
          go_simp
          with_reducible rfl
        rotate_left
        · simp only [Act.put, List.setIfInBounds_toArray, List.set_cons_zero, List.set_cons_succ, i64_w, i32_w]
          rfl
        refine done_ (by kernel_rfl) ?_
        have ho71 := HO14.out
        rw [List.nil_append] at ho71
        have HLN := Aside0.mk (show (rest.take 0 ++ rest.drop (0 + 1)).length + 1 = rest.length by have := HA3.out; simp; omega)
        generalize (rest.take 0 ++ rest.drop (0 + 1)) = rest2 at ho71 HI2 HLN
        obtain ⟨A2, c2, e71, hc2, -⟩ := Kd.R_reads ho71
        subst e71
        have R_990 := Aside0.mk (Kd.R_mono (ok' := fun _ => True) (Kd.R_lower ho71 (below_drew B910.out).size) (fun _ _ => trivial))
        have hb := HB14.out
        clear ho71 HO14
        have P_911 := Aside0.mk (blk_below (blk_drew P_907.out) hb)
        have S_912 := Aside0.mk (blk_below (blk_drew S_908.out) hb)
        have T_913 := Aside0.mk (blk_below (blk_drew T_909.out) hb)
        have B914 := Aside0.mk (below_step (below_drew B910.out) hb)
        go_wp2_with fail
        all_goals
          go_roundg ko
          case rel => exact ⟨i + 1, rest2, t2, A2, c2, rfl, rfl, by first | rfl | rw [wi], ⟨by have := HK.out; have := HLN.out; have := hc2; omega⟩, HI2, HT2, ⟨B914.out⟩, ⟨P_911.out⟩, ⟨S_912.out⟩, ⟨T_913.out⟩, R_990⟩
          case measure => exact Nat.lt_succ_self _
    · have d1 : decide ((0 : Int) < (rest.length : Int)) = false := decide_eq_false hi
      obtain rfl : rest = [] := List.eq_nil_of_length_eq_zero (by omega)
      obtain rfl : t = s := HI.out.done Xhrel.out
      clear hi HK R_900
      have hmm := @run_makeMap Try.prog
      obtain ⟨wm, hup0, hM, om, hwm⟩ := M.upd keyOf29 Try.underlying53 (M.MapIs.new (ek := e29) (ev := eI) (K := K29) (V := Int) wr) ⟨t, Xhs.out⟩ 1
      have hup : (Instr.mapUpdate 53 (.map (some wr.heap.size)) (.agg (SV t)) (.int .i64 1)).run Try.prog (wr.alloc (.map #[] 0)) = .ok () wm := hup0
      have P_901 := Aside0.mk (show wm.heap[w.heap.size]? = some (.cells (#[.int .u64 pk, .int .u64 pv]) 26 (0, 0)) from by rw [hwm]; exact (M.setB_far _ _ _ _ (by have := blk_lt P_900.out; omega)).trans (blk_alloc P_900.out _))
      have S_902 := Aside0.mk (show wm.heap[w3.heap.size]? = some (.cells (SV t) 29 (0, 0)) from by rw [hwm]; exact (M.setB_far _ _ _ _ (by have := blk_lt S_900.out; omega)).trans (blk_alloc S_900.out _))
      have T_903 := Aside0.mk (show wm.heap[w6.heap.size]? = some (.cells (SV t) 29 (0, 0)) from by rw [hwm]; exact (M.setB_far _ _ _ _ (by have := blk_lt T_900.out; omega)).trans (blk_alloc T_900.out _))
      have S_OLD := Aside0.mk (blk_alloc S_900.out (.map #[] 0))
      have B904 := Aside0.mk (show Below w.heap.size w wm from by rw [hwm]; exact M.setB_below (below_alloc B900.out (.map #[] 0)) B900.out.size om)
      have M_999 := Aside0.mk hM
      clear hup0 hM hwm B900 P_900 S_900 T_900
      have cp0 : wm.cell? ⟨w.heap.size, 0, none⟩ = some (.int .u64 pk) := (blk_cell P_901.out 0).trans rfl; have cp1 : wm.cell? ⟨w.heap.size, 1, none⟩ = some (.int .u64 pv) := (blk_cell P_901.out 1).trans rfl
      go_wp2_with (first
        | ((with_reducible refine wpLd 29 (.tmp 7) ?_); refine wpList_load_row_g (by rfl) 29 (.tmp 7) rfl (w3.heap.size) rfl 29 (SV t) (0, 0) _ S_OLD.out Try.underlying29 rfl (info29 _) ?_)
        | ((with_reducible refine wpLd 29 (.tmp 7) ?_); refine wpList_load_row_g (by rfl) 29 (.tmp 7) rfl (w3.heap.size) rfl 29 (SV t) (0, 0) _ S_902.out Try.underlying29 rfl (info29 _) ?_))
      rcases Xhcs.out with ⟨u, er, hwi, her⟩ | ⟨u, hwi, hu, his, hbk, hne⟩ | ⟨u, hwi, hu, his, hgv, hbk2, heq⟩ | ⟨u, hwi, hu, his, hgv, hbk2, hne⟩
      · have Xhwi := Aside0.mk hwi
        clear hwi
        have Xher := Aside0.mk her
        clear her
        refine (get_T t pk _ Xhs.out).mono ?_
        rintro e_ w20 ⟨rfl, hb⟩
        have P_1001 := Aside0.mk (blk_below P_901.out hb)
        have S_1002 := Aside0.mk (blk_below S_902.out hb)
        have T_1003 := Aside0.mk (blk_below T_903.out hb)
        have M_1004 := Aside0.mk (M.MapIs.below M_999.out hb)
        have B1005 := Aside0.mk (below_step B904.out hb)
        clear hb P_901 S_902 T_903 M_999 B904
        generalize getV t pk = gv
        generalize isF pk t = gb
        go_wp2_with (first
          | ((with_reducible refine wpLd 29 (.tmp 7) ?_); refine wpList_load_row_g (by rfl) 29 (.tmp 7) rfl (w3.heap.size) rfl 29 (SV t) (0, 0) _ S_1002.out Try.underlying29 rfl (info29 _) ?_)
          | ((with_reducible refine wpLd 26 (.tmp 5) ?_); refine wpList_load_row_g (by rfl) 26 (.tmp 5) rfl (w.heap.size) rfl 26 (#[.int .u64 pk, .int .u64 pv]) (0, 0) _ P_1001.out Try.underlying26 rfl (by kernel_rfl) ?_))
        refine (with_T t ⟨pk, pv⟩ _ Xhs.out).mono ?_
        rintro e_ w21 ⟨rfl, hb⟩
        rw [Xhwi.out]
        have P_1006 := Aside0.mk (blk_below P_1001.out hb)
        have S_1007 := Aside0.mk (blk_below S_1002.out hb)
        have T_1008 := Aside0.mk (blk_below T_1003.out hb)
        have M_1009 := Aside0.mk (M.MapIs.below M_1004.out hb)
        have B1010 := Aside0.mk (below_step B1005.out hb)
        clear hb P_1001 S_1002 T_1003 M_1004 B1005
        have L_U := Aside0.mk (show w.heap.size ≤ w21.heap.size from B1010.out.size)
        have NE_P_U := Aside0.mk (show w.heap.size ≠ w21.heap.size by have := blk_lt P_1006.out; omega)
        have NE_S_U := Aside0.mk (show w3.heap.size ≠ w21.heap.size by have := blk_lt S_1007.out; omega)
        have NE_T_U := Aside0.mk (show w6.heap.size ≠ w21.heap.size by have := blk_lt T_1008.out; omega)
        have P_1011 := Aside0.mk (blk_alloc P_1006.out (.cells #[.int .i64 0, .int .u64 0, .int .u64 0, .int .u64 0, .int .u64 0, .int .u64 0, .int .u64 0, .int .u64 0, .int .u64 0, .int .u64 0, .int .u64 0, .int .u64 0, .int .u64 0, .int .u64 0, .int .u64 0, .int .u64 0, .int .u64 0, .int .u64 0, .int .u64 0, .int .u64 0, .int .u64 0, .int .u64 0, .int .u64 0, .int .u64 0, .int .u64 0, .int .u64 0, .int .u64 0, .int .u64 0, .int .u64 0, .int .u64 0, .int .u64 0, .int .u64 0, .int .u64 0] 29))
        have S_1012 := Aside0.mk (blk_alloc S_1007.out (.cells #[.int .i64 0, .int .u64 0, .int .u64 0, .int .u64 0, .int .u64 0, .int .u64 0, .int .u64 0, .int .u64 0, .int .u64 0, .int .u64 0, .int .u64 0, .int .u64 0, .int .u64 0, .int .u64 0, .int .u64 0, .int .u64 0, .int .u64 0, .int .u64 0, .int .u64 0, .int .u64 0, .int .u64 0, .int .u64 0, .int .u64 0, .int .u64 0, .int .u64 0, .int .u64 0, .int .u64 0, .int .u64 0, .int .u64 0, .int .u64 0, .int .u64 0, .int .u64 0, .int .u64 0] 29))
        have T_1013 := Aside0.mk (blk_alloc T_1008.out (.cells #[.int .i64 0, .int .u64 0, .int .u64 0, .int .u64 0, .int .u64 0, .int .u64 0, .int .u64 0, .int .u64 0, .int .u64 0, .int .u64 0, .int .u64 0, .int .u64 0, .int .u64 0, .int .u64 0, .int .u64 0, .int .u64 0, .int .u64 0, .int .u64 0, .int .u64 0, .int .u64 0, .int .u64 0, .int .u64 0, .int .u64 0, .int .u64 0, .int .u64 0, .int .u64 0, .int .u64 0, .int .u64 0, .int .u64 0, .int .u64 0, .int .u64 0, .int .u64 0, .int .u64 0] 29))
        have U_1014 := Aside0.mk (blk_new (w21) (.cells #[.int .i64 0, .int .u64 0, .int .u64 0, .int .u64 0, .int .u64 0, .int .u64 0, .int .u64 0, .int .u64 0, .int .u64 0, .int .u64 0, .int .u64 0, .int .u64 0, .int .u64 0, .int .u64 0, .int .u64 0, .int .u64 0, .int .u64 0, .int .u64 0, .int .u64 0, .int .u64 0, .int .u64 0, .int .u64 0, .int .u64 0, .int .u64 0, .int .u64 0, .int .u64 0, .int .u64 0, .int .u64 0, .int .u64 0, .int .u64 0, .int .u64 0, .int .u64 0, .int .u64 0] 29))
        have B1015 := Aside0.mk (below_alloc B1010.out (.cells #[.int .i64 0, .int .u64 0, .int .u64 0, .int .u64 0, .int .u64 0, .int .u64 0, .int .u64 0, .int .u64 0, .int .u64 0, .int .u64 0, .int .u64 0, .int .u64 0, .int .u64 0, .int .u64 0, .int .u64 0, .int .u64 0, .int .u64 0, .int .u64 0, .int .u64 0, .int .u64 0, .int .u64 0, .int .u64 0, .int .u64 0, .int .u64 0, .int .u64 0, .int .u64 0, .int .u64 0, .int .u64 0, .int .u64 0, .int .u64 0, .int .u64 0, .int .u64 0, .int .u64 0] 29))
        clear P_1006 S_1007 T_1008 B1010
        have NE_M_U := Aside0.mk (show wr.heap.size ≠ w21.heap.size by have := M.MapIs.lt M_1009.out; omega)
        have M_1016 := Aside0.mk (M.MapIs.below (M_1009.out) (below_alloc (Below.refl _ _) (.cells #[.int .i64 0, .int .u64 0, .int .u64 0, .int .u64 0, .int .u64 0, .int .u64 0, .int .u64 0, .int .u64 0, .int .u64 0, .int .u64 0, .int .u64 0, .int .u64 0, .int .u64 0, .int .u64 0, .int .u64 0, .int .u64 0, .int .u64 0, .int .u64 0, .int .u64 0, .int .u64 0, .int .u64 0, .int .u64 0, .int .u64 0, .int .u64 0, .int .u64 0, .int .u64 0, .int .u64 0, .int .u64 0, .int .u64 0, .int .u64 0, .int .u64 0, .int .u64 0, .int .u64 0] 29)))
        clear M_1009
        have tf1 : (er == 0) = false := beq_eq_false_iff_ne.2 Xher.out
        have tf2 : (er != 0) = true := by simp [Xher.out]
        have tf3 := eq_false Xher.out
        go_wp2_with (first
          | ((with_reducible refine wpSt 29 (.tmp 16) (.tmp 86) ?_); refine store_whole (w := w) (B := w.heap.size) rfl rfl 29 (.tmp 16) (.tmp 86) rfl (g := w21.heap.size) (cs := SV u) rfl _ rfl rfl (stot _) (SV_one _) U_1014.out (by first | (rw [SV_size]; done) | (rw [SV_size, SV_size]; done) | (rw [SV_size]; rfl)) L_U.out B1015.out ?_; intro w_1017 h1 h2 h3 h4; have M_1018 := Aside0.mk (M.MapIs.move M_1016.out (h3 _ NE_M_U.out)); have P_1019 := Aside0.mk ((h3 _ NE_P_U.out).trans P_1011.out); have S_1020 := Aside0.mk ((h3 _ NE_S_U.out).trans S_1012.out); have T_1021 := Aside0.mk ((h3 _ NE_T_U.out).trans T_1013.out); have U_1022 := Aside0.mk (h1); have B1023 := Aside0.mk (h2); clear h1 h2 h3 h4 M_1016 P_1011 S_1012 T_1013 U_1014 B1015)
          | ((with_reducible refine wpLd 29 (.tmp 7) ?_); refine wpList_load_row_g (by rfl) 29 (.tmp 7) rfl (w3.heap.size) rfl 29 (SV t) (0, 0) _ S_1020.out Try.underlying29 rfl (info29 _) ?_)
          | ((with_reducible refine wpLd 29 (.tmp 10) ?_); refine wpList_load_row_g (by rfl) 29 (.tmp 10) rfl (w6.heap.size) rfl 29 (SV t) (0, 0) _ T_1021.out Try.underlying29 rfl (info29 _) ?_)
          | ((with_reducible refine wpBi .eql 29 (.tmp 90) (.tmp 91) 29 ?_); refine wpList_value_g (by rfl) (exec_eq29s (.tmp 90) (.tmp 91) rfl t rfl rfl Xhs.out) ?_)
          | ((with_reducible refine wpLk 53 (.tmp 94) (.tmp 95) false ?_); refine wpList_value_g (by rfl) (exec_lk (.tmp 94) (.tmp 95) rfl _ rfl t Xhs.out rfl _ M_1018.out 1 (by rw [M.get_put, if_pos rfl]; rfl)) ?_))
        go_ret
        exact ⟨rfl, B1023.out⟩
      · have Xhwi := Aside0.mk hwi
        clear hwi
        have Xhu := Aside0.mk hu
        clear hu
        have Xhis := Aside0.mk his
        clear his
        have Xhbk := Aside0.mk hbk
        clear hbk
        have Xhne := Aside0.mk hne
        clear hne
        refine (get_T t pk _ Xhs.out).mono ?_
        rintro e_ w20 ⟨rfl, hb⟩
        have P_1001 := Aside0.mk (blk_below P_901.out hb)
        have S_1002 := Aside0.mk (blk_below S_902.out hb)
        have T_1003 := Aside0.mk (blk_below T_903.out hb)
        have M_1004 := Aside0.mk (M.MapIs.below M_999.out hb)
        have B1005 := Aside0.mk (below_step B904.out hb)
        clear hb P_901 S_902 T_903 M_999 B904
        rw [Xhis.out]
        generalize getV t pk = gv
        go_wp2_with (first
          | ((with_reducible refine wpLd 29 (.tmp 7) ?_); refine wpList_load_row_g (by rfl) 29 (.tmp 7) rfl (w3.heap.size) rfl 29 (SV t) (0, 0) _ S_1002.out Try.underlying29 rfl (info29 _) ?_)
          | ((with_reducible refine wpLd 26 (.tmp 5) ?_); refine wpList_load_row_g (by rfl) 26 (.tmp 5) rfl (w.heap.size) rfl 26 (#[.int .u64 pk, .int .u64 pv]) (0, 0) _ P_1001.out Try.underlying26 rfl (by kernel_rfl) ?_))
        refine (with_T t ⟨pk, pv⟩ _ Xhs.out).mono ?_
        rintro e_ w21 ⟨rfl, hb⟩
        rw [Xhwi.out]
        have P_1006 := Aside0.mk (blk_below P_1001.out hb)
        have S_1007 := Aside0.mk (blk_below S_1002.out hb)
        have T_1008 := Aside0.mk (blk_below T_1003.out hb)
        have M_1009 := Aside0.mk (M.MapIs.below M_1004.out hb)
        have B1010 := Aside0.mk (below_step B1005.out hb)
        clear hb P_1001 S_1002 T_1003 M_1004 B1005
        have L_U := Aside0.mk (show w.heap.size ≤ w21.heap.size from B1010.out.size)
        have NE_P_U := Aside0.mk (show w.heap.size ≠ w21.heap.size by have := blk_lt P_1006.out; omega)
        have NE_S_U := Aside0.mk (show w3.heap.size ≠ w21.heap.size by have := blk_lt S_1007.out; omega)
        have NE_T_U := Aside0.mk (show w6.heap.size ≠ w21.heap.size by have := blk_lt T_1008.out; omega)
        have P_1011 := Aside0.mk (blk_alloc P_1006.out (.cells #[.int .i64 0, .int .u64 0, .int .u64 0, .int .u64 0, .int .u64 0, .int .u64 0, .int .u64 0, .int .u64 0, .int .u64 0, .int .u64 0, .int .u64 0, .int .u64 0, .int .u64 0, .int .u64 0, .int .u64 0, .int .u64 0, .int .u64 0, .int .u64 0, .int .u64 0, .int .u64 0, .int .u64 0, .int .u64 0, .int .u64 0, .int .u64 0, .int .u64 0, .int .u64 0, .int .u64 0, .int .u64 0, .int .u64 0, .int .u64 0, .int .u64 0, .int .u64 0, .int .u64 0] 29))
        have S_1012 := Aside0.mk (blk_alloc S_1007.out (.cells #[.int .i64 0, .int .u64 0, .int .u64 0, .int .u64 0, .int .u64 0, .int .u64 0, .int .u64 0, .int .u64 0, .int .u64 0, .int .u64 0, .int .u64 0, .int .u64 0, .int .u64 0, .int .u64 0, .int .u64 0, .int .u64 0, .int .u64 0, .int .u64 0, .int .u64 0, .int .u64 0, .int .u64 0, .int .u64 0, .int .u64 0, .int .u64 0, .int .u64 0, .int .u64 0, .int .u64 0, .int .u64 0, .int .u64 0, .int .u64 0, .int .u64 0, .int .u64 0, .int .u64 0] 29))
        have T_1013 := Aside0.mk (blk_alloc T_1008.out (.cells #[.int .i64 0, .int .u64 0, .int .u64 0, .int .u64 0, .int .u64 0, .int .u64 0, .int .u64 0, .int .u64 0, .int .u64 0, .int .u64 0, .int .u64 0, .int .u64 0, .int .u64 0, .int .u64 0, .int .u64 0, .int .u64 0, .int .u64 0, .int .u64 0, .int .u64 0, .int .u64 0, .int .u64 0, .int .u64 0, .int .u64 0, .int .u64 0, .int .u64 0, .int .u64 0, .int .u64 0, .int .u64 0, .int .u64 0, .int .u64 0, .int .u64 0, .int .u64 0, .int .u64 0] 29))
        have U_1014 := Aside0.mk (blk_new (w21) (.cells #[.int .i64 0, .int .u64 0, .int .u64 0, .int .u64 0, .int .u64 0, .int .u64 0, .int .u64 0, .int .u64 0, .int .u64 0, .int .u64 0, .int .u64 0, .int .u64 0, .int .u64 0, .int .u64 0, .int .u64 0, .int .u64 0, .int .u64 0, .int .u64 0, .int .u64 0, .int .u64 0, .int .u64 0, .int .u64 0, .int .u64 0, .int .u64 0, .int .u64 0, .int .u64 0, .int .u64 0, .int .u64 0, .int .u64 0, .int .u64 0, .int .u64 0, .int .u64 0, .int .u64 0] 29))
        have B1015 := Aside0.mk (below_alloc B1010.out (.cells #[.int .i64 0, .int .u64 0, .int .u64 0, .int .u64 0, .int .u64 0, .int .u64 0, .int .u64 0, .int .u64 0, .int .u64 0, .int .u64 0, .int .u64 0, .int .u64 0, .int .u64 0, .int .u64 0, .int .u64 0, .int .u64 0, .int .u64 0, .int .u64 0, .int .u64 0, .int .u64 0, .int .u64 0, .int .u64 0, .int .u64 0, .int .u64 0, .int .u64 0, .int .u64 0, .int .u64 0, .int .u64 0, .int .u64 0, .int .u64 0, .int .u64 0, .int .u64 0, .int .u64 0] 29))
        clear P_1006 S_1007 T_1008 B1010
        have NE_M_U := Aside0.mk (show wr.heap.size ≠ w21.heap.size by have := M.MapIs.lt M_1009.out; omega)
        have M_1016 := Aside0.mk (M.MapIs.below (M_1009.out) (below_alloc (Below.refl _ _) (.cells #[.int .i64 0, .int .u64 0, .int .u64 0, .int .u64 0, .int .u64 0, .int .u64 0, .int .u64 0, .int .u64 0, .int .u64 0, .int .u64 0, .int .u64 0, .int .u64 0, .int .u64 0, .int .u64 0, .int .u64 0, .int .u64 0, .int .u64 0, .int .u64 0, .int .u64 0, .int .u64 0, .int .u64 0, .int .u64 0, .int .u64 0, .int .u64 0, .int .u64 0, .int .u64 0, .int .u64 0, .int .u64 0, .int .u64 0, .int .u64 0, .int .u64 0, .int .u64 0, .int .u64 0] 29)))
        clear M_1009
        go_wp2_with (first
          | ((with_reducible refine wpSt 29 (.tmp 16) (.tmp 86) ?_); refine store_whole (w := w) (B := w.heap.size) rfl rfl 29 (.tmp 16) (.tmp 86) rfl (g := w21.heap.size) (cs := SV u) rfl _ rfl rfl (stot _) (SV_one _) U_1014.out (by first | (rw [SV_size]; done) | (rw [SV_size, SV_size]; done) | (rw [SV_size]; rfl)) L_U.out B1015.out ?_; intro w_1017 h1 h2 h3 h4; have M_1018 := Aside0.mk (M.MapIs.move M_1016.out (h3 _ NE_M_U.out)); have P_1019 := Aside0.mk ((h3 _ NE_P_U.out).trans P_1011.out); have S_1020 := Aside0.mk ((h3 _ NE_S_U.out).trans S_1012.out); have T_1021 := Aside0.mk ((h3 _ NE_T_U.out).trans T_1013.out); have U_1022 := Aside0.mk (h1); have B1023 := Aside0.mk (h2); clear h1 h2 h3 h4 M_1016 P_1011 S_1012 T_1013 U_1014 B1015; have cq0 : w_1017.cell? ⟨w.heap.size, 0, none⟩ = some (.int .u64 pk) := (blk_cell P_1019.out 0).trans rfl; have cq1 : w_1017.cell? ⟨w.heap.size, 1, none⟩ = some (.int .u64 pv) := (blk_cell P_1019.out 1).trans rfl)
          | ((with_reducible refine wpLd 29 (.tmp 16) ?_); refine wpList_load_row_g (by rfl) 29 (.tmp 16) rfl (w21.heap.size) rfl 29 (SV u) (0, 0) _ U_1022.out Try.underlying29 rfl (info29 _) ?_))
        refine (without_T u pk _ Xhu.out).mono ?_
        rintro e_ w22 ⟨rfl, hb⟩
        rw [Xhbk.out]
        have P_1024 := Aside0.mk (blk_below P_1019.out hb)
        have S_1025 := Aside0.mk (blk_below S_1020.out hb)
        have T_1026 := Aside0.mk (blk_below T_1021.out hb)
        have U_1027 := Aside0.mk (blk_below U_1022.out hb)
        have M_1028 := Aside0.mk (M.MapIs.below M_1018.out hb)
        have B1029 := Aside0.mk (below_step B1023.out hb)
        clear hb P_1019 S_1020 T_1021 U_1022 M_1018 B1023
        have L_K := Aside0.mk (show w.heap.size ≤ w22.heap.size from B1029.out.size)
        have NE_P_K := Aside0.mk (show w.heap.size ≠ w22.heap.size by have := blk_lt P_1024.out; omega)
        have NE_S_K := Aside0.mk (show w3.heap.size ≠ w22.heap.size by have := blk_lt S_1025.out; omega)
        have NE_T_K := Aside0.mk (show w6.heap.size ≠ w22.heap.size by have := blk_lt T_1026.out; omega)
        have NE_U_K := Aside0.mk (show w21.heap.size ≠ w22.heap.size by have := blk_lt U_1027.out; omega)
        have P_1030 := Aside0.mk (blk_alloc P_1024.out (.cells #[.int .i64 0, .int .u64 0, .int .u64 0, .int .u64 0, .int .u64 0, .int .u64 0, .int .u64 0, .int .u64 0, .int .u64 0, .int .u64 0, .int .u64 0, .int .u64 0, .int .u64 0, .int .u64 0, .int .u64 0, .int .u64 0, .int .u64 0, .int .u64 0, .int .u64 0, .int .u64 0, .int .u64 0, .int .u64 0, .int .u64 0, .int .u64 0, .int .u64 0, .int .u64 0, .int .u64 0, .int .u64 0, .int .u64 0, .int .u64 0, .int .u64 0, .int .u64 0, .int .u64 0] 29))
        have S_1031 := Aside0.mk (blk_alloc S_1025.out (.cells #[.int .i64 0, .int .u64 0, .int .u64 0, .int .u64 0, .int .u64 0, .int .u64 0, .int .u64 0, .int .u64 0, .int .u64 0, .int .u64 0, .int .u64 0, .int .u64 0, .int .u64 0, .int .u64 0, .int .u64 0, .int .u64 0, .int .u64 0, .int .u64 0, .int .u64 0, .int .u64 0, .int .u64 0, .int .u64 0, .int .u64 0, .int .u64 0, .int .u64 0, .int .u64 0, .int .u64 0, .int .u64 0, .int .u64 0, .int .u64 0, .int .u64 0, .int .u64 0, .int .u64 0] 29))
        have T_1032 := Aside0.mk (blk_alloc T_1026.out (.cells #[.int .i64 0, .int .u64 0, .int .u64 0, .int .u64 0, .int .u64 0, .int .u64 0, .int .u64 0, .int .u64 0, .int .u64 0, .int .u64 0, .int .u64 0, .int .u64 0, .int .u64 0, .int .u64 0, .int .u64 0, .int .u64 0, .int .u64 0, .int .u64 0, .int .u64 0, .int .u64 0, .int .u64 0, .int .u64 0, .int .u64 0, .int .u64 0, .int .u64 0, .int .u64 0, .int .u64 0, .int .u64 0, .int .u64 0, .int .u64 0, .int .u64 0, .int .u64 0, .int .u64 0] 29))
        have U_1033 := Aside0.mk (blk_alloc U_1027.out (.cells #[.int .i64 0, .int .u64 0, .int .u64 0, .int .u64 0, .int .u64 0, .int .u64 0, .int .u64 0, .int .u64 0, .int .u64 0, .int .u64 0, .int .u64 0, .int .u64 0, .int .u64 0, .int .u64 0, .int .u64 0, .int .u64 0, .int .u64 0, .int .u64 0, .int .u64 0, .int .u64 0, .int .u64 0, .int .u64 0, .int .u64 0, .int .u64 0, .int .u64 0, .int .u64 0, .int .u64 0, .int .u64 0, .int .u64 0, .int .u64 0, .int .u64 0, .int .u64 0, .int .u64 0] 29))
        have K_1034 := Aside0.mk (blk_new (w22) (.cells #[.int .i64 0, .int .u64 0, .int .u64 0, .int .u64 0, .int .u64 0, .int .u64 0, .int .u64 0, .int .u64 0, .int .u64 0, .int .u64 0, .int .u64 0, .int .u64 0, .int .u64 0, .int .u64 0, .int .u64 0, .int .u64 0, .int .u64 0, .int .u64 0, .int .u64 0, .int .u64 0, .int .u64 0, .int .u64 0, .int .u64 0, .int .u64 0, .int .u64 0, .int .u64 0, .int .u64 0, .int .u64 0, .int .u64 0, .int .u64 0, .int .u64 0, .int .u64 0, .int .u64 0] 29))
        have B1035 := Aside0.mk (below_alloc B1029.out (.cells #[.int .i64 0, .int .u64 0, .int .u64 0, .int .u64 0, .int .u64 0, .int .u64 0, .int .u64 0, .int .u64 0, .int .u64 0, .int .u64 0, .int .u64 0, .int .u64 0, .int .u64 0, .int .u64 0, .int .u64 0, .int .u64 0, .int .u64 0, .int .u64 0, .int .u64 0, .int .u64 0, .int .u64 0, .int .u64 0, .int .u64 0, .int .u64 0, .int .u64 0, .int .u64 0, .int .u64 0, .int .u64 0, .int .u64 0, .int .u64 0, .int .u64 0, .int .u64 0, .int .u64 0] 29))
        clear P_1024 S_1025 T_1026 U_1027 B1029
        have NE_M_K := Aside0.mk (show wr.heap.size ≠ w22.heap.size by have := M.MapIs.lt M_1028.out; omega)
        have M_1036 := Aside0.mk (M.MapIs.below (M_1028.out) (below_alloc (Below.refl _ _) (.cells #[.int .i64 0, .int .u64 0, .int .u64 0, .int .u64 0, .int .u64 0, .int .u64 0, .int .u64 0, .int .u64 0, .int .u64 0, .int .u64 0, .int .u64 0, .int .u64 0, .int .u64 0, .int .u64 0, .int .u64 0, .int .u64 0, .int .u64 0, .int .u64 0, .int .u64 0, .int .u64 0, .int .u64 0, .int .u64 0, .int .u64 0, .int .u64 0, .int .u64 0, .int .u64 0, .int .u64 0, .int .u64 0, .int .u64 0, .int .u64 0, .int .u64 0, .int .u64 0, .int .u64 0] 29)))
        clear M_1028
        go_wp2_with (first
          | ((with_reducible refine wpSt 29 (.tmp 18) (.tmp 102) ?_); refine store_whole (w := w) (B := w.heap.size) rfl rfl 29 (.tmp 18) (.tmp 102) rfl (g := w22.heap.size) (cs := SV t) rfl _ rfl rfl (stot _) (SV_one _) K_1034.out (by first | (rw [SV_size]; done) | (rw [SV_size, SV_size]; done) | (rw [SV_size]; rfl)) L_K.out B1035.out ?_; intro w_1037 h1 h2 h3 h4; have M_1038 := Aside0.mk (M.MapIs.move M_1036.out (h3 _ NE_M_K.out)); have P_1039 := Aside0.mk ((h3 _ NE_P_K.out).trans P_1030.out); have S_1040 := Aside0.mk ((h3 _ NE_S_K.out).trans S_1031.out); have T_1041 := Aside0.mk ((h3 _ NE_T_K.out).trans T_1032.out); have U_1042 := Aside0.mk ((h3 _ NE_U_K.out).trans U_1033.out); have K_1043 := Aside0.mk (h1); have B1044 := Aside0.mk (h2); clear h1 h2 h3 h4 M_1036 P_1030 S_1031 T_1032 U_1033 K_1034 B1035))
        refine start_ (n := 32) (S := fun w' => w'.heap[w3.heap.size]? = some (.cells (SV t) 29 (0, 0)) ∧ w'.heap[w6.heap.size]? = some (.cells (SV t) 29 (0, 0)) ∧ w'.heap[w21.heap.size]? = some (.cells (SV u) 29 (0, 0)) ∧ w'.heap[w22.heap.size]? = some (.cells (SV t) 29 (0, 0)) ∧ M.MapIs e29 eI w' wr.heap.size (M.put [] ⟨t, Xhs.out⟩ 1) ∧ w'.cell? ⟨w.heap.size, 1, none⟩ = some (.int .u64 pv)) (ds := []) #[false, false, false, false, false, false, false, false, false, false, false, false, false, false, false, false, false, false, false, false, false, false, false, false, false, false, false, false, false, false, false, false] (by kernel_rfl) rfl rfl ⟨blk_drew S_1040.out, blk_drew T_1041.out, blk_drew U_1042.out, blk_drew K_1043.out, M.MapIs.below M_1038.out (below_drew (Below.refl _ _)), (blk_cell (blk_drew P_1039.out) 1).trans rfl⟩ (fun hHeld => ?_)
        refine take_ (i := 0) (N := some 113) (v := ?_) (a' := ?_) #[true, false, false, false, false, false, false, false, false, false, false, false, false, false, false, false, false, false, false, false, false, false, false, false, false, false, false, false, false, false, false, false] rfl rfl (by kernel_rfl) (fun _ _ _ h => h) (Or.inl ⟨by rfl, ?_⟩) hHeld ?_ ?_
        rotate_left
        · rintro w' ⟨s0, s1, s2, s3, s4, s5⟩
          refine exec_load_row 29 (.tmp 7) ?_ _ ?_ 29 (SV t) (0, 0) _ s0 Try.underlying29 rfl (info29 _) <;> rfl
        rotate_left
        · simp only [Act.put, List.setIfInBounds_toArray, List.set_cons_zero, List.set_cons_succ, i64_w, i32_w]
          rfl
        refine take_ (i := 1) (N := some 114) (v := ?_) (a' := ?_) #[true, true, false, false, false, false, false, false, false, false, false, false, false, false, false, false, false, false, false, false, false, false, false, false, false, false, false, false, false, false, false, false] rfl rfl (by kernel_rfl) (fun _ _ _ h => h) (Or.inl ⟨by rfl, ?_⟩) hHeld ?_ ?_
        rotate_left
        · rintro w' ⟨s0, s1, s2, s3, s4, s5⟩
          refine exec_load_row 29 (.tmp 10) ?_ _ ?_ 29 (SV t) (0, 0) _ s1 Try.underlying29 rfl (info29 _) <;> rfl
        rotate_left
        · simp only [Act.put, List.setIfInBounds_toArray, List.set_cons_zero, List.set_cons_succ, i64_w, i32_w]
          rfl
        refine pure_ (i := 2) (N := some 115) (v := ?_) (a' := ?_) #[true, true, true, false, false, false, false, false, false, false, false, false, false, false, false, false, false, false, false, false, false, false, false, false, false, false, false, false, false, false, false, false] rfl rfl (by kernel_rfl) (fun _ _ _ h => h) (Or.inl ⟨by rfl, ?_⟩) ?_ ?_
        rotate_left
        · intro w'
          refine exec_eq29s (.tmp 113) (.tmp 114) ?_ t ?_ ?_ Xhs.out <;> rfl
        rotate_left
        · simp only [Act.put, List.setIfInBounds_toArray, List.set_cons_zero, List.set_cons_succ, i64_w, i32_w]
          rfl
        refine pure_ (i := 3) (N := some 116) (v := ?_) (a' := ?_) #[true, true, true, true, false, false, false, false, false, false, false, false, false, false, false, false, false, false, false, false, false, false, false, false, false, false, false, false, false, false, false, false] rfl rfl (by kernel_rfl) (fun _ _ _ h => h) (Or.inl ⟨by rfl, ?_⟩) ?_ ?_
        rotate_left
        · intro w'
          go_simp
          with_reducible rfl
        rotate_left
        · simp only [Act.put, List.setIfInBounds_toArray, List.set_cons_zero, List.set_cons_succ, i64_w, i32_w]
          rfl
        refine pure_ (i := 4) (N := some 117) (v := ?_) (a' := ?_) #[true, true, true, true, true, false, false, false, false, false, false, false, false, false, false, false, false, false, false, false, false, false, false, false, false, false, false, false, false, false, false, false] rfl rfl (by kernel_rfl) (fun _ _ _ h => h) (Or.inl ⟨by rfl, ?_⟩) ?_ ?_
        rotate_left
        · intro w'
          go_simp
          with_reducible rfl
        rotate_left
        · simp only [Act.put, List.setIfInBounds_toArray, List.set_cons_zero, List.set_cons_succ, i64_w, i32_w]
          rfl
        refine take_ (i := 5) (N := some 118) (v := ?_) (a' := ?_) #[true, true, true, true, true, true, false, false, false, false, false, false, false, false, false, false, false, false, false, false, false, false, false, false, false, false, false, false, false, false, false, false] rfl rfl (by kernel_rfl) (fun _ _ _ h => h) (Or.inl ⟨by rfl, ?_⟩) hHeld ?_ ?_
        rotate_left
        · rintro w' ⟨s0, s1, s2, s3, s4, s5⟩
          refine exec_load_row 29 (.tmp 10) ?_ _ ?_ 29 (SV t) (0, 0) _ s1 Try.underlying29 rfl (info29 _) <;> rfl
        rotate_left
        · simp only [Act.put, List.setIfInBounds_toArray, List.set_cons_zero, List.set_cons_succ, i64_w, i32_w]
          rfl
        refine take_ (i := 6) (N := some 119) (v := ?_) (a' := ?_) #[true, true, true, true, true, true, true, false, false, false, false, false, false, false, false, false, false, false, false, false, false, false, false, false, false, false, false, false, false, false, false, false] rfl rfl (by kernel_rfl) (fun _ _ _ h => h) (Or.inl ⟨by rfl, ?_⟩) hHeld ?_ ?_
        rotate_left
        · rintro w' ⟨s0, s1, s2, s3, s4, s5⟩
          refine exec_lk (.tmp 117) (.tmp 118) ?_ wr.heap.size ?_ t Xhs.out ?_ _ s4 1 (by rw [M.get_put, if_pos rfl]; rfl) <;> rfl
        rotate_left
        · simp only [Act.put, List.setIfInBounds_toArray, List.set_cons_zero, List.set_cons_succ, i64_w, i32_w]
          rfl
        refine pure_ (i := 7) (N := some 120) (v := ?_) (a' := ?_) #[true, true, true, true, true, true, true, true, false, false, false, false, false, false, false, false, false, false, false, false, false, false, false, false, false, false, false, false, false, false, false, false] rfl rfl (by kernel_rfl) (fun _ _ _ h => h) (Or.inl ⟨by rfl, ?_⟩) ?_ ?_
        rotate_left
        · intro w'
          go_simp
          with_reducible rfl
        rotate_left
        · simp only [Act.put, List.setIfInBounds_toArray, List.set_cons_zero, List.set_cons_succ, i64_w, i32_w]
          rfl
        refine pure_ (i := 8) (N := some 121) (v := ?_) (a' := ?_) #[true, true, true, true, true, true, true, true, true, false, false, false, false, false, false, false, false, false, false, false, false, false, false, false, false, false, false, false, false, false, false, false] rfl rfl (by kernel_rfl) (fun _ _ _ h => h) (Or.inl ⟨by rfl, ?_⟩) ?_ ?_
        rotate_left
        · intro w'
          go_simp
          with_reducible rfl
        rotate_left
        · simp only [Act.put, List.setIfInBounds_toArray, List.set_cons_zero, List.set_cons_succ, i64_w, i32_w]
          rfl
        refine pure_ (i := 9) (N := some 122) (v := ?_) (a' := ?_) #[true, true, true, true, true, true, true, true, true, true, false, false, false, false, false, false, false, false, false, false, false, false, false, false, false, false, false, false, false, false, false, false] rfl rfl (by kernel_rfl) (fun _ _ _ h => h) (Or.inl ⟨by rfl, ?_⟩) ?_ ?_
        rotate_left
        · intro w'
          go_simp
          with_reducible rfl
        rotate_left
        · simp only [Act.put, List.setIfInBounds_toArray, List.set_cons_zero, List.set_cons_succ, i64_w, i32_w]
          rfl
        refine pure_ (i := 10) (N := some 123) (v := ?_) (a' := ?_) #[true, true, true, true, true, true, true, true, true, true, true, false, false, false, false, false, false, false, false, false, false, false, false, false, false, false, false, false, false, false, false, false] rfl rfl (by kernel_rfl) (fun _ _ _ h => h) (Or.inl ⟨by rfl, ?_⟩) ?_ ?_
        rotate_left
        · intro w'
          go_simp
          with_reducible rfl
        rotate_left
        · simp only [Act.put, List.setIfInBounds_toArray, List.set_cons_zero, List.set_cons_succ, i64_w, i32_w]
          rfl
        refine pure_ (i := 11) (N := some 124) (v := ?_) (a' := ?_) #[true, true, true, true, true, true, true, true, true, true, true, true, false, false, false, false, false, false, false, false, false, false, false, false, false, false, false, false, false, false, false, false] rfl rfl (by kernel_rfl) (fun _ _ _ h => h) (Or.inl ⟨by rfl, ?_⟩) ?_ ?_
        rotate_left
        · intro w'
          go_simp
          with_reducible rfl
        rotate_left
        · simp only [Act.put, List.setIfInBounds_toArray, List.set_cons_zero, List.set_cons_succ, i64_w, i32_w]
          rfl
        refine pure_ (i := 12) (N := some 125) (v := ?_) (a' := ?_) #[true, true, true, true, true, true, true, true, true, true, true, true, true, false, false, false, false, false, false, false, false, false, false, false, false, false, false, false, false, false, false, false] rfl rfl (by kernel_rfl) (fun _ _ _ h => h) (Or.inl ⟨by rfl, ?_⟩) ?_ ?_
        rotate_left
        · intro w'
          go_simp
          with_reducible rfl
        rotate_left
        · simp only [Act.put, List.setIfInBounds_toArray, List.set_cons_zero, List.set_cons_succ, i64_w, i32_w]
          rfl
        refine pure_ (i := 13) (N := some 126) (v := ?_) (a' := ?_) #[true, true, true, true, true, true, true, true, true, true, true, true, true, true, false, false, false, false, false, false, false, false, false, false, false, false, false, false, false, false, false, false] rfl rfl (by kernel_rfl) (fun _ _ _ h => h) (Or.inl ⟨by rfl, ?_⟩) ?_ ?_
        rotate_left
        · intro w'
          go_simp
          with_reducible rfl
        rotate_left
        · simp only [Act.put, List.setIfInBounds_toArray, List.set_cons_zero, List.set_cons_succ, i64_w, i32_w]
          rfl
        refine take_ (i := 14) (N := some 127) (v := ?_) (a' := ?_) #[true, true, true, true, true, true, true, true, true, true, true, true, true, true, true, false, false, false, false, false, false, false, false, false, false, false, false, false, false, false, false, false] rfl rfl (by kernel_rfl) (fun _ _ _ h => h) (Or.inl ⟨by rfl, ?_⟩) hHeld ?_ ?_
        rotate_left
        · rintro w' ⟨s0, s1, s2, s3, s4, s5⟩
          refine exec_load_row 29 (.tmp 18) ?_ _ ?_ 29 (SV t) (0, 0) _ s3 Try.underlying29 rfl (info29 _) <;> rfl
        rotate_left
        · simp only [Act.put, List.setIfInBounds_toArray, List.set_cons_zero, List.set_cons_succ, i64_w, i32_w]
          rfl
        refine take_ (i := 15) (N := some 128) (v := ?_) (a' := ?_) #[true, true, true, true, true, true, true, true, true, true, true, true, true, true, true, true, false, false, false, false, false, false, false, false, false, false, false, false, false, false, false, false] rfl rfl (by kernel_rfl) (fun _ _ _ h => h) (Or.inl ⟨by rfl, ?_⟩) hHeld ?_ ?_
        rotate_left
        · rintro w' ⟨s0, s1, s2, s3, s4, s5⟩
          refine exec_load_row 29 (.tmp 7) ?_ _ ?_ 29 (SV t) (0, 0) _ s0 Try.underlying29 rfl (info29 _) <;> rfl
        rotate_left
        · simp only [Act.put, List.setIfInBounds_toArray, List.set_cons_zero, List.set_cons_succ, i64_w, i32_w]
          rfl
        refine pure_ (i := 16) (N := some 129) (v := ?_) (a' := ?_) #[true, true, true, true, true, true, true, true, true, true, true, true, true, true, true, true, true, false, false, false, false, false, false, false, false, false, false, false, false, false, false, false] rfl rfl (by kernel_rfl) (fun _ _ _ h => h) (Or.inl ⟨by rfl, ?_⟩) ?_ ?_
        rotate_left
        · intro w'
          refine exec_eq29s (.tmp 127) (.tmp 128) ?_ t ?_ ?_ Xhs.out <;> rfl
        rotate_left
        · simp only [Act.put, List.setIfInBounds_toArray, List.set_cons_zero, List.set_cons_succ, i64_w, i32_w]
          rfl
        refine pure_ (i := 17) (N := some 130) (v := ?_) (a' := ?_) #[true, true, true, true, true, true, true, true, true, true, true, true, true, true, true, true, true, true, false, false, false, false, false, false, false, false, false, false, false, false, false, false] rfl rfl (by kernel_rfl) (fun _ _ _ h => h) (Or.inl ⟨by rfl, ?_⟩) ?_ ?_
        rotate_left
        · intro w'
          go_simp
          with_reducible rfl
        rotate_left
        · simp only [Act.put, List.setIfInBounds_toArray, List.set_cons_zero, List.set_cons_succ, i64_w, i32_w]
          rfl
        refine pure_ (i := 18) (N := some 131) (v := ?_) (a' := ?_) #[true, true, true, true, true, true, true, true, true, true, true, true, true, true, true, true, true, true, true, false, false, false, false, false, false, false, false, false, false, false, false, false] rfl rfl (by kernel_rfl) (fun _ _ _ h => h) (Or.inl ⟨by rfl, ?_⟩) ?_ ?_
        rotate_left
        · intro w'
          go_simp
          with_reducible rfl
        rotate_left
        · simp only [Act.put, List.setIfInBounds_toArray, List.set_cons_zero, List.set_cons_succ, i64_w, i32_w]
          rfl
        refine pure_ (i := 22) (N := some 135) (v := ?_) (a' := ?_) #[true, true, true, true, true, true, true, true, true, true, true, true, true, true, true, true, true, true, true, false, false, false, true, false, false, false, false, false, false, false, false, false] rfl rfl (by kernel_rfl) (fun _ _ _ h => h) (Or.inl ⟨by rfl, ?_⟩) ?_ ?_
        rotate_left
        · intro w'
          go_simp
          with_reducible rfl
        rotate_left
        · simp only [Act.put, List.setIfInBounds_toArray, List.set_cons_zero, List.set_cons_succ, i64_w, i32_w]
          rfl
        refine pure_ (i := 23) (N := some 136) (v := ?_) (a' := ?_) #[true, true, true, true, true, true, true, true, true, true, true, true, true, true, true, true, true, true, true, false, false, false, true, true, false, false, false, false, false, false, false, false] rfl rfl (by kernel_rfl) (fun _ _ _ h => h) (Or.inl ⟨by rfl, ?_⟩) ?_ ?_
        rotate_left
        · intro w'
          go_simp
          with_reducible rfl
        rotate_left
        · simp only [Act.put, List.setIfInBounds_toArray, List.set_cons_zero, List.set_cons_succ, i64_w, i32_w]
          rfl
        refine pure_ (i := 24) (N := some 137) (v := undef) (a' := ?_) #[true, true, true, true, true, true, true, true, true, true, true, true, true, true, true, true, true, true, true, false, false, false, true, true, true, false, false, false, false, false, false, false] rfl rfl (by kernel_rfl) (fun _ _ _ h => h) (Or.inr ⟨by rfl, rfl⟩) ?_ ?_
        rotate_left
        · simp only [Act.put, List.setIfInBounds_toArray, List.set_cons_zero, List.set_cons_succ, i64_w, i32_w]
          rfl
        refine pure_ (i := 25) (N := some 138) (v := undef) (a' := ?_) #[true, true, true, true, true, true, true, true, true, true, true, true, true, true, true, true, true, true, true, false, false, false, true, true, true, true, false, false, false, false, false, false] rfl rfl (by kernel_rfl) (fun _ _ _ h => h) (Or.inr ⟨by rfl, rfl⟩) ?_ ?_
        rotate_left
        · simp only [Act.put, List.setIfInBounds_toArray, List.set_cons_zero, List.set_cons_succ, i64_w, i32_w]
          rfl
        refine pure_ (i := 26) (N := some 139) (v := undef) (a' := ?_) #[true, true, true, true, true, true, true, true, true, true, true, true, true, true, true, true, true, true, true, false, false, false, true, true, true, true, true, false, false, false, false, false] rfl rfl (by kernel_rfl) (fun _ _ _ h => h) (Or.inr ⟨by rfl, rfl⟩) ?_ ?_
        rotate_left
        · simp only [Act.put, List.setIfInBounds_toArray, List.set_cons_zero, List.set_cons_succ, i64_w, i32_w]
          rfl
        refine pure_ (i := 27) (N := some 140) (v := undef) (a' := ?_) #[true, true, true, true, true, true, true, true, true, true, true, true, true, true, true, true, true, true, true, false, false, false, true, true, true, true, true, true, false, false, false, false] rfl rfl (by kernel_rfl) (fun _ _ _ h => h) (Or.inr ⟨by rfl, rfl⟩) ?_ ?_
        rotate_left
        · simp only [Act.put, List.setIfInBounds_toArray, List.set_cons_zero, List.set_cons_succ, i64_w, i32_w]
          rfl
        refine pure_ (i := 28) (N := some 141) (v := ?_) (a' := ?_) #[true, true, true, true, true, true, true, true, true, true, true, true, true, true, true, true, true, true, true, false, false, false, true, true, true, true, true, true, true, false, false, false] rfl rfl (by kernel_rfl) (fun _ _ _ h => h) (Or.inl ⟨by rfl, ?_⟩) ?_ ?_
        rotate_left
        · intro w'
          go_simp
          with_reducible rfl
        rotate_left
        · simp only [Act.put, List.setIfInBounds_toArray, List.set_cons_zero, List.set_cons_succ, i64_w, i32_w]
          rfl
        refine take_ (i := 19) (N := some 132) (v := ?_) (a' := ?_) #[true, true, true, true, true, true, true, true, true, true, true, true, true, true, true, true, true, true, true, true, false, false, true, true, true, true, true, true, true, false, false, false] rfl rfl (by kernel_rfl) (fun _ _ _ h => h) (Or.inl ⟨by rfl, ?_⟩) hHeld ?_ ?_
        rotate_left
        · rintro w' ⟨s0, s1, s2, s3, s4, s5⟩
          refine exec_load_row 29 (.tmp 16) ?_ _ ?_ 29 (SV u) (0, 0) _ s2 Try.underlying29 rfl (info29 _) <;> rfl
        rotate_left
        · simp only [Act.put, List.setIfInBounds_toArray, List.set_cons_zero, List.set_cons_succ, i64_w, i32_w]
          rfl
        refine take_ (i := 20) (N := some 133) (v := ?_) (a' := ?_) #[true, true, true, true, true, true, true, true, true, true, true, true, true, true, true, true, true, true, true, true, true, false, true, true, true, true, true, true, true, false, false, false] rfl rfl (by kernel_rfl) (fun _ _ _ h => h) (Or.inl ⟨by rfl, ?_⟩) hHeld ?_ ?_
        rotate_left
        · rintro w' ⟨s0, s1, s2, s3, s4, s5⟩
          refine exec_load_row 29 (.tmp 7) ?_ _ ?_ 29 (SV t) (0, 0) _ s0 Try.underlying29 rfl (info29 _) <;> rfl
        rotate_left
        · simp only [Act.put, List.setIfInBounds_toArray, List.set_cons_zero, List.set_cons_succ, i64_w, i32_w]
          rfl
        refine pure_ (i := 21) (N := some 134) (v := ?_) (a' := ?_) #[true, true, true, true, true, true, true, true, true, true, true, true, true, true, true, true, true, true, true, true, true, true, true, true, true, true, true, true, true, false, false, false] rfl rfl (by kernel_rfl) (fun _ _ _ h => h) (Or.inl ⟨by rfl, ?_⟩) ?_ ?_
        rotate_left
        · intro w'
          refine exec_eq29n (.tmp 132) (.tmp 133) ?_ u t ?_ ?_ Xhu.out Xhne.out <;> rfl
        rotate_left
        · simp only [Act.put, List.setIfInBounds_toArray, List.set_cons_zero, List.set_cons_succ, i64_w, i32_w]
          rfl
        refine pure_ (i := 29) (N := some 142) (v := ?_) (a' := ?_) #[true, true, true, true, true, true, true, true, true, true, true, true, true, true, true, true, true, true, true, true, true, true, true, true, true, true, true, true, true, true, false, false] rfl rfl (by kernel_rfl) (fun _ _ _ h => h) (Or.inl ⟨by rfl, ?_⟩) ?_ ?_
        rotate_left
        · intro w'
          go_simp
          with_reducible rfl
        rotate_left
        · simp only [Act.put, List.setIfInBounds_toArray, List.set_cons_zero, List.set_cons_succ, i64_w, i32_w]
          rfl
        refine pure_ (i := 30) (N := some 143) (v := ?_) (a' := ?_) #[true, true, true, true, true, true, true, true, true, true, true, true, true, true, true, true, true, true, true, true, true, true, true, true, true, true, true, true, true, true, true, false] rfl rfl (by kernel_rfl) (fun _ _ _ h => h) (Or.inl ⟨by rfl, ?_⟩) ?_ ?_
        rotate_left
        · intro w'
          go_simp
          with_reducible rfl
        rotate_left
        · simp only [Act.put, List.setIfInBounds_toArray, List.set_cons_zero, List.set_cons_succ, i64_w, i32_w]
          rfl
        refine pure_ (i := 31) (N := some 6) (v := ?_) (a' := ?_) #[true, true, true, true, true, true, true, true, true, true, true, true, true, true, true, true, true, true, true, true, true, true, true, true, true, true, true, true, true, true, true, true] rfl rfl (by kernel_rfl) (fun _ _ _ h => h) (Or.inl ⟨by rfl, ?_⟩) ?_ ?_
        rotate_left
        · intro w'
          go_simp
          with_reducible rfl
        rotate_left
        · simp only [Act.put, List.setIfInBounds_toArray, List.set_cons_zero, List.set_cons_succ, i64_w, i32_w]
          rfl
        refine done_ (by kernel_rfl) ?_
        go_wp2_with fail
        go_ret
        exact ⟨rfl, below_drew B1044.out⟩
      · have Xhwi := Aside0.mk hwi
        clear hwi
        have Xhu := Aside0.mk hu
        clear hu
        have Xhis := Aside0.mk his
        clear his
        have Xhgv := Aside0.mk hgv
        clear hgv
        have Xhbk2 := Aside0.mk hbk2
        clear hbk2
        have Xheq := Aside0.mk heq
        clear heq
        obtain rfl : t = u := Xheq.out.symm
        refine (get_T t pk _ Xhs.out).mono ?_
        rintro e_ w20 ⟨rfl, hb⟩
        have P_1001 := Aside0.mk (blk_below P_901.out hb)
        have S_1002 := Aside0.mk (blk_below S_902.out hb)
        have T_1003 := Aside0.mk (blk_below T_903.out hb)
        have M_1004 := Aside0.mk (M.MapIs.below M_999.out hb)
        have B1005 := Aside0.mk (below_step B904.out hb)
        clear hb P_901 S_902 T_903 M_999 B904
        rw [Xhis.out, Xhgv.out]
        go_wp2_with (first
          | ((with_reducible refine wpLd 29 (.tmp 7) ?_); refine wpList_load_row_g (by rfl) 29 (.tmp 7) rfl (w3.heap.size) rfl 29 (SV t) (0, 0) _ S_1002.out Try.underlying29 rfl (info29 _) ?_)
          | ((with_reducible refine wpLd 26 (.tmp 5) ?_); refine wpList_load_row_g (by rfl) 26 (.tmp 5) rfl (w.heap.size) rfl 26 (#[.int .u64 pk, .int .u64 pv]) (0, 0) _ P_1001.out Try.underlying26 rfl (by kernel_rfl) ?_))
        refine (with_T t ⟨pk, pv⟩ _ Xhs.out).mono ?_
        rintro e_ w21 ⟨rfl, hb⟩
        rw [Xhwi.out]
        have P_1006 := Aside0.mk (blk_below P_1001.out hb)
        have S_1007 := Aside0.mk (blk_below S_1002.out hb)
        have T_1008 := Aside0.mk (blk_below T_1003.out hb)
        have M_1009 := Aside0.mk (M.MapIs.below M_1004.out hb)
        have B1010 := Aside0.mk (below_step B1005.out hb)
        clear hb P_1001 S_1002 T_1003 M_1004 B1005
        have L_U := Aside0.mk (show w.heap.size ≤ w21.heap.size from B1010.out.size)
        have NE_P_U := Aside0.mk (show w.heap.size ≠ w21.heap.size by have := blk_lt P_1006.out; omega)
        have NE_S_U := Aside0.mk (show w3.heap.size ≠ w21.heap.size by have := blk_lt S_1007.out; omega)
        have NE_T_U := Aside0.mk (show w6.heap.size ≠ w21.heap.size by have := blk_lt T_1008.out; omega)
        have P_1011 := Aside0.mk (blk_alloc P_1006.out (.cells #[.int .i64 0, .int .u64 0, .int .u64 0, .int .u64 0, .int .u64 0, .int .u64 0, .int .u64 0, .int .u64 0, .int .u64 0, .int .u64 0, .int .u64 0, .int .u64 0, .int .u64 0, .int .u64 0, .int .u64 0, .int .u64 0, .int .u64 0, .int .u64 0, .int .u64 0, .int .u64 0, .int .u64 0, .int .u64 0, .int .u64 0, .int .u64 0, .int .u64 0, .int .u64 0, .int .u64 0, .int .u64 0, .int .u64 0, .int .u64 0, .int .u64 0, .int .u64 0, .int .u64 0] 29))
        have S_1012 := Aside0.mk (blk_alloc S_1007.out (.cells #[.int .i64 0, .int .u64 0, .int .u64 0, .int .u64 0, .int .u64 0, .int .u64 0, .int .u64 0, .int .u64 0, .int .u64 0, .int .u64 0, .int .u64 0, .int .u64 0, .int .u64 0, .int .u64 0, .int .u64 0, .int .u64 0, .int .u64 0, .int .u64 0, .int .u64 0, .int .u64 0, .int .u64 0, .int .u64 0, .int .u64 0, .int .u64 0, .int .u64 0, .int .u64 0, .int .u64 0, .int .u64 0, .int .u64 0, .int .u64 0, .int .u64 0, .int .u64 0, .int .u64 0] 29))
        have T_1013 := Aside0.mk (blk_alloc T_1008.out (.cells #[.int .i64 0, .int .u64 0, .int .u64 0, .int .u64 0, .int .u64 0, .int .u64 0, .int .u64 0, .int .u64 0, .int .u64 0, .int .u64 0, .int .u64 0, .int .u64 0, .int .u64 0, .int .u64 0, .int .u64 0, .int .u64 0, .int .u64 0, .int .u64 0, .int .u64 0, .int .u64 0, .int .u64 0, .int .u64 0, .int .u64 0, .int .u64 0, .int .u64 0, .int .u64 0, .int .u64 0, .int .u64 0, .int .u64 0, .int .u64 0, .int .u64 0, .int .u64 0, .int .u64 0] 29))
        have U_1014 := Aside0.mk (blk_new (w21) (.cells #[.int .i64 0, .int .u64 0, .int .u64 0, .int .u64 0, .int .u64 0, .int .u64 0, .int .u64 0, .int .u64 0, .int .u64 0, .int .u64 0, .int .u64 0, .int .u64 0, .int .u64 0, .int .u64 0, .int .u64 0, .int .u64 0, .int .u64 0, .int .u64 0, .int .u64 0, .int .u64 0, .int .u64 0, .int .u64 0, .int .u64 0, .int .u64 0, .int .u64 0, .int .u64 0, .int .u64 0, .int .u64 0, .int .u64 0, .int .u64 0, .int .u64 0, .int .u64 0, .int .u64 0] 29))
        have B1015 := Aside0.mk (below_alloc B1010.out (.cells #[.int .i64 0, .int .u64 0, .int .u64 0, .int .u64 0, .int .u64 0, .int .u64 0, .int .u64 0, .int .u64 0, .int .u64 0, .int .u64 0, .int .u64 0, .int .u64 0, .int .u64 0, .int .u64 0, .int .u64 0, .int .u64 0, .int .u64 0, .int .u64 0, .int .u64 0, .int .u64 0, .int .u64 0, .int .u64 0, .int .u64 0, .int .u64 0, .int .u64 0, .int .u64 0, .int .u64 0, .int .u64 0, .int .u64 0, .int .u64 0, .int .u64 0, .int .u64 0, .int .u64 0] 29))
        clear P_1006 S_1007 T_1008 B1010
        have NE_M_U := Aside0.mk (show wr.heap.size ≠ w21.heap.size by have := M.MapIs.lt M_1009.out; omega)
        have M_1016 := Aside0.mk (M.MapIs.below (M_1009.out) (below_alloc (Below.refl _ _) (.cells #[.int .i64 0, .int .u64 0, .int .u64 0, .int .u64 0, .int .u64 0, .int .u64 0, .int .u64 0, .int .u64 0, .int .u64 0, .int .u64 0, .int .u64 0, .int .u64 0, .int .u64 0, .int .u64 0, .int .u64 0, .int .u64 0, .int .u64 0, .int .u64 0, .int .u64 0, .int .u64 0, .int .u64 0, .int .u64 0, .int .u64 0, .int .u64 0, .int .u64 0, .int .u64 0, .int .u64 0, .int .u64 0, .int .u64 0, .int .u64 0, .int .u64 0, .int .u64 0, .int .u64 0] 29)))
        clear M_1009
        go_wp2_with (first
          | ((with_reducible refine wpSt 29 (.tmp 16) (.tmp 86) ?_); refine store_whole (w := w) (B := w.heap.size) rfl rfl 29 (.tmp 16) (.tmp 86) rfl (g := w21.heap.size) (cs := SV t) rfl _ rfl rfl (stot _) (SV_one _) U_1014.out (by first | (rw [SV_size]; done) | (rw [SV_size, SV_size]; done) | (rw [SV_size]; rfl)) L_U.out B1015.out ?_; intro w_1017 h1 h2 h3 h4; have M_1018 := Aside0.mk (M.MapIs.move M_1016.out (h3 _ NE_M_U.out)); have P_1019 := Aside0.mk ((h3 _ NE_P_U.out).trans P_1011.out); have S_1020 := Aside0.mk ((h3 _ NE_S_U.out).trans S_1012.out); have T_1021 := Aside0.mk ((h3 _ NE_T_U.out).trans T_1013.out); have U_1022 := Aside0.mk (h1); have B1023 := Aside0.mk (h2); clear h1 h2 h3 h4 M_1016 P_1011 S_1012 T_1013 U_1014 B1015; have cq0 : w_1017.cell? ⟨w.heap.size, 0, none⟩ = some (.int .u64 pk) := (blk_cell P_1019.out 0).trans rfl; have cq1 : w_1017.cell? ⟨w.heap.size, 1, none⟩ = some (.int .u64 pv) := (blk_cell P_1019.out 1).trans rfl)
          | ((with_reducible refine wpLd 29 (.tmp 16) ?_); refine wpList_load_row_g (by rfl) 29 (.tmp 16) rfl (w21.heap.size) rfl 29 (SV t) (0, 0) _ U_1022.out Try.underlying29 rfl (info29 _) ?_))
        refine (without_T t pk _ Xhu.out).mono ?_
        rintro e_ w22 ⟨rfl, hb⟩
        have P_1024 := Aside0.mk (blk_below P_1019.out hb)
        have S_1025 := Aside0.mk (blk_below S_1020.out hb)
        have T_1026 := Aside0.mk (blk_below T_1021.out hb)
        have U_1027 := Aside0.mk (blk_below U_1022.out hb)
        have M_1028 := Aside0.mk (M.MapIs.below M_1018.out hb)
        have B1029 := Aside0.mk (below_step B1023.out hb)
        clear hb P_1019 S_1020 T_1021 U_1022 M_1018 B1023
        obtain ⟨bk, hbk⟩ : ∃ bk, withoutV t pk = bk := ⟨_, rfl⟩
        rw [hbk]
        have L_K := Aside0.mk (show w.heap.size ≤ w22.heap.size from B1029.out.size)
        have NE_P_K := Aside0.mk (show w.heap.size ≠ w22.heap.size by have := blk_lt P_1024.out; omega)
        have NE_S_K := Aside0.mk (show w3.heap.size ≠ w22.heap.size by have := blk_lt S_1025.out; omega)
        have NE_T_K := Aside0.mk (show w6.heap.size ≠ w22.heap.size by have := blk_lt T_1026.out; omega)
        have NE_U_K := Aside0.mk (show w21.heap.size ≠ w22.heap.size by have := blk_lt U_1027.out; omega)
        have P_1030 := Aside0.mk (blk_alloc P_1024.out (.cells #[.int .i64 0, .int .u64 0, .int .u64 0, .int .u64 0, .int .u64 0, .int .u64 0, .int .u64 0, .int .u64 0, .int .u64 0, .int .u64 0, .int .u64 0, .int .u64 0, .int .u64 0, .int .u64 0, .int .u64 0, .int .u64 0, .int .u64 0, .int .u64 0, .int .u64 0, .int .u64 0, .int .u64 0, .int .u64 0, .int .u64 0, .int .u64 0, .int .u64 0, .int .u64 0, .int .u64 0, .int .u64 0, .int .u64 0, .int .u64 0, .int .u64 0, .int .u64 0, .int .u64 0] 29))
        have S_1031 := Aside0.mk (blk_alloc S_1025.out (.cells #[.int .i64 0, .int .u64 0, .int .u64 0, .int .u64 0, .int .u64 0, .int .u64 0, .int .u64 0, .int .u64 0, .int .u64 0, .int .u64 0, .int .u64 0, .int .u64 0, .int .u64 0, .int .u64 0, .int .u64 0, .int .u64 0, .int .u64 0, .int .u64 0, .int .u64 0, .int .u64 0, .int .u64 0, .int .u64 0, .int .u64 0, .int .u64 0, .int .u64 0, .int .u64 0, .int .u64 0, .int .u64 0, .int .u64 0, .int .u64 0, .int .u64 0, .int .u64 0, .int .u64 0] 29))
        have T_1032 := Aside0.mk (blk_alloc T_1026.out (.cells #[.int .i64 0, .int .u64 0, .int .u64 0, .int .u64 0, .int .u64 0, .int .u64 0, .int .u64 0, .int .u64 0, .int .u64 0, .int .u64 0, .int .u64 0, .int .u64 0, .int .u64 0, .int .u64 0, .int .u64 0, .int .u64 0, .int .u64 0, .int .u64 0, .int .u64 0, .int .u64 0, .int .u64 0, .int .u64 0, .int .u64 0, .int .u64 0, .int .u64 0, .int .u64 0, .int .u64 0, .int .u64 0, .int .u64 0, .int .u64 0, .int .u64 0, .int .u64 0, .int .u64 0] 29))
        have U_1033 := Aside0.mk (blk_alloc U_1027.out (.cells #[.int .i64 0, .int .u64 0, .int .u64 0, .int .u64 0, .int .u64 0, .int .u64 0, .int .u64 0, .int .u64 0, .int .u64 0, .int .u64 0, .int .u64 0, .int .u64 0, .int .u64 0, .int .u64 0, .int .u64 0, .int .u64 0, .int .u64 0, .int .u64 0, .int .u64 0, .int .u64 0, .int .u64 0, .int .u64 0, .int .u64 0, .int .u64 0, .int .u64 0, .int .u64 0, .int .u64 0, .int .u64 0, .int .u64 0, .int .u64 0, .int .u64 0, .int .u64 0, .int .u64 0] 29))
        have K_1034 := Aside0.mk (blk_new (w22) (.cells #[.int .i64 0, .int .u64 0, .int .u64 0, .int .u64 0, .int .u64 0, .int .u64 0, .int .u64 0, .int .u64 0, .int .u64 0, .int .u64 0, .int .u64 0, .int .u64 0, .int .u64 0, .int .u64 0, .int .u64 0, .int .u64 0, .int .u64 0, .int .u64 0, .int .u64 0, .int .u64 0, .int .u64 0, .int .u64 0, .int .u64 0, .int .u64 0, .int .u64 0, .int .u64 0, .int .u64 0, .int .u64 0, .int .u64 0, .int .u64 0, .int .u64 0, .int .u64 0, .int .u64 0] 29))
        have B1035 := Aside0.mk (below_alloc B1029.out (.cells #[.int .i64 0, .int .u64 0, .int .u64 0, .int .u64 0, .int .u64 0, .int .u64 0, .int .u64 0, .int .u64 0, .int .u64 0, .int .u64 0, .int .u64 0, .int .u64 0, .int .u64 0, .int .u64 0, .int .u64 0, .int .u64 0, .int .u64 0, .int .u64 0, .int .u64 0, .int .u64 0, .int .u64 0, .int .u64 0, .int .u64 0, .int .u64 0, .int .u64 0, .int .u64 0, .int .u64 0, .int .u64 0, .int .u64 0, .int .u64 0, .int .u64 0, .int .u64 0, .int .u64 0] 29))
        clear P_1024 S_1025 T_1026 U_1027 B1029
        have NE_M_K := Aside0.mk (show wr.heap.size ≠ w22.heap.size by have := M.MapIs.lt M_1028.out; omega)
        have M_1036 := Aside0.mk (M.MapIs.below (M_1028.out) (below_alloc (Below.refl _ _) (.cells #[.int .i64 0, .int .u64 0, .int .u64 0, .int .u64 0, .int .u64 0, .int .u64 0, .int .u64 0, .int .u64 0, .int .u64 0, .int .u64 0, .int .u64 0, .int .u64 0, .int .u64 0, .int .u64 0, .int .u64 0, .int .u64 0, .int .u64 0, .int .u64 0, .int .u64 0, .int .u64 0, .int .u64 0, .int .u64 0, .int .u64 0, .int .u64 0, .int .u64 0, .int .u64 0, .int .u64 0, .int .u64 0, .int .u64 0, .int .u64 0, .int .u64 0, .int .u64 0, .int .u64 0] 29)))
        clear M_1028
        go_wp2_with (first
          | ((with_reducible refine wpSt 29 (.tmp 18) (.tmp 102) ?_); refine store_whole (w := w) (B := w.heap.size) rfl rfl 29 (.tmp 18) (.tmp 102) rfl (g := w22.heap.size) (cs := SV bk) rfl _ rfl rfl (stot _) (SV_one _) K_1034.out (by first | (rw [SV_size]; done) | (rw [SV_size, SV_size]; done) | (rw [SV_size]; rfl)) L_K.out B1035.out ?_; intro w_1037 h1 h2 h3 h4; have M_1038 := Aside0.mk (M.MapIs.move M_1036.out (h3 _ NE_M_K.out)); have P_1039 := Aside0.mk ((h3 _ NE_P_K.out).trans P_1030.out); have S_1040 := Aside0.mk ((h3 _ NE_S_K.out).trans S_1031.out); have T_1041 := Aside0.mk ((h3 _ NE_T_K.out).trans T_1032.out); have U_1042 := Aside0.mk ((h3 _ NE_U_K.out).trans U_1033.out); have K_1043 := Aside0.mk (h1); have B1044 := Aside0.mk (h2); clear h1 h2 h3 h4 M_1036 P_1030 S_1031 T_1032 U_1033 K_1034 B1035; have cr0 : w_1037.cell? ⟨w.heap.size, 0, none⟩ = some (.int .u64 pk) := (blk_cell P_1039.out 0).trans rfl; have cr1 : w_1037.cell? ⟨w.heap.size, 1, none⟩ = some (.int .u64 pv) := (blk_cell P_1039.out 1).trans rfl)
          | ((with_reducible refine wpLd 29 (.tmp 18) ?_); refine wpList_load_row_g (by rfl) 29 (.tmp 18) rfl (w22.heap.size) rfl 29 (SV bk) (0, 0) _ K_1043.out Try.underlying29 rfl (info29 _) ?_))
        refine (with_T bk ⟨pk, pv⟩ _ (by rw [← hbk]; exact withoutV_le t pk Xhu.out)).mono ?_
        rintro e_ w23 ⟨rfl, hb⟩
        have P_1045 := Aside0.mk (blk_below P_1039.out hb)
        have S_1046 := Aside0.mk (blk_below S_1040.out hb)
        have T_1047 := Aside0.mk (blk_below T_1041.out hb)
        have U_1048 := Aside0.mk (blk_below U_1042.out hb)
        have K_1049 := Aside0.mk (blk_below K_1043.out hb)
        have M_1050 := Aside0.mk (M.MapIs.below M_1038.out hb)
        have B1051 := Aside0.mk (below_step B1044.out hb)
        clear hb P_1039 S_1040 T_1041 U_1042 K_1043 M_1038 B1044
        rw [show withV bk ⟨pk, pv⟩ = (t, 0) from by rw [← hbk]; exact Xhbk2.out]
        go_wp2_with (first
          | ((with_reducible refine wpSt 29 (.tmp 18) (.tmp 111) ?_); refine store_whole (w := w) (B := w.heap.size) rfl rfl 29 (.tmp 18) (.tmp 111) rfl (g := w22.heap.size) (cs := SV t) rfl _ rfl rfl (stot _) (SV_one _) K_1049.out (by first | (rw [SV_size]; done) | (rw [SV_size, SV_size]; done) | (rw [SV_size]; rfl)) L_K.out B1051.out ?_; intro w_1052 h1 h2 h3 h4; have M_1053 := Aside0.mk (M.MapIs.move M_1050.out (h3 _ NE_M_K.out)); have P_1054 := Aside0.mk ((h3 _ NE_P_K.out).trans P_1045.out); have S_1055 := Aside0.mk ((h3 _ NE_S_K.out).trans S_1046.out); have T_1056 := Aside0.mk ((h3 _ NE_T_K.out).trans T_1047.out); have U_1057 := Aside0.mk ((h3 _ NE_U_K.out).trans U_1048.out); have K_1058 := Aside0.mk (h1); have B1059 := Aside0.mk (h2); clear h1 h2 h3 h4 M_1050 P_1045 S_1046 T_1047 U_1048 K_1049 B1051))
        refine start_ (n := 32) (S := fun w' => w'.heap[w3.heap.size]? = some (.cells (SV t) 29 (0, 0)) ∧ w'.heap[w6.heap.size]? = some (.cells (SV t) 29 (0, 0)) ∧ w'.heap[w21.heap.size]? = some (.cells (SV t) 29 (0, 0)) ∧ w'.heap[w22.heap.size]? = some (.cells (SV t) 29 (0, 0)) ∧ M.MapIs e29 eI w' wr.heap.size (M.put [] ⟨t, Xhs.out⟩ 1) ∧ w'.cell? ⟨w.heap.size, 1, none⟩ = some (.int .u64 pv)) (ds := []) #[false, false, false, false, false, false, false, false, false, false, false, false, false, false, false, false, false, false, false, false, false, false, false, false, false, false, false, false, false, false, false, false] (by kernel_rfl) rfl rfl ⟨blk_drew S_1055.out, blk_drew T_1056.out, blk_drew U_1057.out, blk_drew K_1058.out, M.MapIs.below M_1053.out (below_drew (Below.refl _ _)), (blk_cell (blk_drew P_1054.out) 1).trans rfl⟩ (fun hHeld => ?_)
        refine take_ (i := 0) (N := some 113) (v := ?_) (a' := ?_) #[true, false, false, false, false, false, false, false, false, false, false, false, false, false, false, false, false, false, false, false, false, false, false, false, false, false, false, false, false, false, false, false] rfl rfl (by kernel_rfl) (fun _ _ _ h => h) (Or.inl ⟨by rfl, ?_⟩) hHeld ?_ ?_
        rotate_left
        · rintro w' ⟨s0, s1, s2, s3, s4, s5⟩
          refine exec_load_row 29 (.tmp 7) ?_ _ ?_ 29 (SV t) (0, 0) _ s0 Try.underlying29 rfl (info29 _) <;> rfl
        rotate_left
        · simp only [Act.put, List.setIfInBounds_toArray, List.set_cons_zero, List.set_cons_succ, i64_w, i32_w]
          rfl
        refine take_ (i := 1) (N := some 114) (v := ?_) (a' := ?_) #[true, true, false, false, false, false, false, false, false, false, false, false, false, false, false, false, false, false, false, false, false, false, false, false, false, false, false, false, false, false, false, false] rfl rfl (by kernel_rfl) (fun _ _ _ h => h) (Or.inl ⟨by rfl, ?_⟩) hHeld ?_ ?_
        rotate_left
        · rintro w' ⟨s0, s1, s2, s3, s4, s5⟩
          refine exec_load_row 29 (.tmp 10) ?_ _ ?_ 29 (SV t) (0, 0) _ s1 Try.underlying29 rfl (info29 _) <;> rfl
        rotate_left
        · simp only [Act.put, List.setIfInBounds_toArray, List.set_cons_zero, List.set_cons_succ, i64_w, i32_w]
          rfl
        refine pure_ (i := 2) (N := some 115) (v := ?_) (a' := ?_) #[true, true, true, false, false, false, false, false, false, false, false, false, false, false, false, false, false, false, false, false, false, false, false, false, false, false, false, false, false, false, false, false] rfl rfl (by kernel_rfl) (fun _ _ _ h => h) (Or.inl ⟨by rfl, ?_⟩) ?_ ?_
        rotate_left
        · intro w'
          refine exec_eq29s (.tmp 113) (.tmp 114) ?_ t ?_ ?_ Xhs.out <;> rfl
        rotate_left
        · simp only [Act.put, List.setIfInBounds_toArray, List.set_cons_zero, List.set_cons_succ, i64_w, i32_w]
          rfl
        refine pure_ (i := 3) (N := some 116) (v := ?_) (a' := ?_) #[true, true, true, true, false, false, false, false, false, false, false, false, false, false, false, false, false, false, false, false, false, false, false, false, false, false, false, false, false, false, false, false] rfl rfl (by kernel_rfl) (fun _ _ _ h => h) (Or.inl ⟨by rfl, ?_⟩) ?_ ?_
        rotate_left
        · intro w'
          go_simp
          with_reducible rfl
        rotate_left
        · simp only [Act.put, List.setIfInBounds_toArray, List.set_cons_zero, List.set_cons_succ, i64_w, i32_w]
          rfl
        refine pure_ (i := 4) (N := some 117) (v := ?_) (a' := ?_) #[true, true, true, true, true, false, false, false, false, false, false, false, false, false, false, false, false, false, false, false, false, false, false, false, false, false, false, false, false, false, false, false] rfl rfl (by kernel_rfl) (fun _ _ _ h => h) (Or.inl ⟨by rfl, ?_⟩) ?_ ?_
        rotate_left
        · intro w'
          go_simp
          with_reducible rfl
        rotate_left
        · simp only [Act.put, List.setIfInBounds_toArray, List.set_cons_zero, List.set_cons_succ, i64_w, i32_w]
          rfl
        refine take_ (i := 5) (N := some 118) (v := ?_) (a' := ?_) #[true, true, true, true, true, true, false, false, false, false, false, false, false, false, false, false, false, false, false, false, false, false, false, false, false, false, false, false, false, false, false, false] rfl rfl (by kernel_rfl) (fun _ _ _ h => h) (Or.inl ⟨by rfl, ?_⟩) hHeld ?_ ?_
        rotate_left
        · rintro w' ⟨s0, s1, s2, s3, s4, s5⟩
          refine exec_load_row 29 (.tmp 10) ?_ _ ?_ 29 (SV t) (0, 0) _ s1 Try.underlying29 rfl (info29 _) <;> rfl
        rotate_left
        · simp only [Act.put, List.setIfInBounds_toArray, List.set_cons_zero, List.set_cons_succ, i64_w, i32_w]
          rfl
        refine take_ (i := 6) (N := some 119) (v := ?_) (a' := ?_) #[true, true, true, true, true, true, true, false, false, false, false, false, false, false, false, false, false, false, false, false, false, false, false, false, false, false, false, false, false, false, false, false] rfl rfl (by kernel_rfl) (fun _ _ _ h => h) (Or.inl ⟨by rfl, ?_⟩) hHeld ?_ ?_
        rotate_left
        · rintro w' ⟨s0, s1, s2, s3, s4, s5⟩
          refine exec_lk (.tmp 117) (.tmp 118) ?_ wr.heap.size ?_ t Xhs.out ?_ _ s4 1 (by rw [M.get_put, if_pos rfl]; rfl) <;> rfl
        rotate_left
        · simp only [Act.put, List.setIfInBounds_toArray, List.set_cons_zero, List.set_cons_succ, i64_w, i32_w]
          rfl
        refine pure_ (i := 7) (N := some 120) (v := ?_) (a' := ?_) #[true, true, true, true, true, true, true, true, false, false, false, false, false, false, false, false, false, false, false, false, false, false, false, false, false, false, false, false, false, false, false, false] rfl rfl (by kernel_rfl) (fun _ _ _ h => h) (Or.inl ⟨by rfl, ?_⟩) ?_ ?_
        rotate_left
        · intro w'
          go_simp
          with_reducible rfl
        rotate_left
        · simp only [Act.put, List.setIfInBounds_toArray, List.set_cons_zero, List.set_cons_succ, i64_w, i32_w]
          rfl
        refine pure_ (i := 8) (N := some 121) (v := ?_) (a' := ?_) #[true, true, true, true, true, true, true, true, true, false, false, false, false, false, false, false, false, false, false, false, false, false, false, false, false, false, false, false, false, false, false, false] rfl rfl (by kernel_rfl) (fun _ _ _ h => h) (Or.inl ⟨by rfl, ?_⟩) ?_ ?_
        rotate_left
        · intro w'
          go_simp
          with_reducible rfl
        rotate_left
        · simp only [Act.put, List.setIfInBounds_toArray, List.set_cons_zero, List.set_cons_succ, i64_w, i32_w]
          rfl
        refine pure_ (i := 9) (N := some 122) (v := ?_) (a' := ?_) #[true, true, true, true, true, true, true, true, true, true, false, false, false, false, false, false, false, false, false, false, false, false, false, false, false, false, false, false, false, false, false, false] rfl rfl (by kernel_rfl) (fun _ _ _ h => h) (Or.inl ⟨by rfl, ?_⟩) ?_ ?_
        rotate_left
        · intro w'
          go_simp
          with_reducible rfl
        rotate_left
        · simp only [Act.put, List.setIfInBounds_toArray, List.set_cons_zero, List.set_cons_succ, i64_w, i32_w]
          rfl
        refine pure_ (i := 10) (N := some 123) (v := ?_) (a' := ?_) #[true, true, true, true, true, true, true, true, true, true, true, false, false, false, false, false, false, false, false, false, false, false, false, false, false, false, false, false, false, false, false, false] rfl rfl (by kernel_rfl) (fun _ _ _ h => h) (Or.inl ⟨by rfl, ?_⟩) ?_ ?_
        rotate_left
        · intro w'
          go_simp
          with_reducible rfl
        rotate_left
        · simp only [Act.put, List.setIfInBounds_toArray, List.set_cons_zero, List.set_cons_succ, i64_w, i32_w]
          rfl
        refine pure_ (i := 11) (N := some 124) (v := ?_) (a' := ?_) #[true, true, true, true, true, true, true, true, true, true, true, true, false, false, false, false, false, false, false, false, false, false, false, false, false, false, false, false, false, false, false, false] rfl rfl (by kernel_rfl) (fun _ _ _ h => h) (Or.inl ⟨by rfl, ?_⟩) ?_ ?_
        rotate_left
        · intro w'
          go_simp
          with_reducible rfl
        rotate_left
        · simp only [Act.put, List.setIfInBounds_toArray, List.set_cons_zero, List.set_cons_succ, i64_w, i32_w]
          rfl
        refine pure_ (i := 12) (N := some 125) (v := ?_) (a' := ?_) #[true, true, true, true, true, true, true, true, true, true, true, true, true, false, false, false, false, false, false, false, false, false, false, false, false, false, false, false, false, false, false, false] rfl rfl (by kernel_rfl) (fun _ _ _ h => h) (Or.inl ⟨by rfl, ?_⟩) ?_ ?_
        rotate_left
        · intro w'
          go_simp
          with_reducible rfl
        rotate_left
        · simp only [Act.put, List.setIfInBounds_toArray, List.set_cons_zero, List.set_cons_succ, i64_w, i32_w]
          rfl
        refine pure_ (i := 13) (N := some 126) (v := ?_) (a' := ?_) #[true, true, true, true, true, true, true, true, true, true, true, true, true, true, false, false, false, false, false, false, false, false, false, false, false, false, false, false, false, false, false, false] rfl rfl (by kernel_rfl) (fun _ _ _ h => h) (Or.inl ⟨by rfl, ?_⟩) ?_ ?_
        rotate_left
        · intro w'
          go_simp
          with_reducible rfl
        rotate_left
        · simp only [Act.put, List.setIfInBounds_toArray, List.set_cons_zero, List.set_cons_succ, i64_w, i32_w]
          rfl
        refine take_ (i := 14) (N := some 127) (v := ?_) (a' := ?_) #[true, true, true, true, true, true, true, true, true, true, true, true, true, true, true, false, false, false, false, false, false, false, false, false, false, false, false, false, false, false, false, false] rfl rfl (by kernel_rfl) (fun _ _ _ h => h) (Or.inl ⟨by rfl, ?_⟩) hHeld ?_ ?_
        rotate_left
        · rintro w' ⟨s0, s1, s2, s3, s4, s5⟩
          refine exec_load_row 29 (.tmp 18) ?_ _ ?_ 29 (SV t) (0, 0) _ s3 Try.underlying29 rfl (info29 _) <;> rfl
        rotate_left
        · simp only [Act.put, List.setIfInBounds_toArray, List.set_cons_zero, List.set_cons_succ, i64_w, i32_w]
          rfl
        refine take_ (i := 15) (N := some 128) (v := ?_) (a' := ?_) #[true, true, true, true, true, true, true, true, true, true, true, true, true, true, true, true, false, false, false, false, false, false, false, false, false, false, false, false, false, false, false, false] rfl rfl (by kernel_rfl) (fun _ _ _ h => h) (Or.inl ⟨by rfl, ?_⟩) hHeld ?_ ?_
        rotate_left
        · rintro w' ⟨s0, s1, s2, s3, s4, s5⟩
          refine exec_load_row 29 (.tmp 7) ?_ _ ?_ 29 (SV t) (0, 0) _ s0 Try.underlying29 rfl (info29 _) <;> rfl
        rotate_left
        · simp only [Act.put, List.setIfInBounds_toArray, List.set_cons_zero, List.set_cons_succ, i64_w, i32_w]
          rfl
        refine pure_ (i := 16) (N := some 129) (v := ?_) (a' := ?_) #[true, true, true, true, true, true, true, true, true, true, true, true, true, true, true, true, true, false, false, false, false, false, false, false, false, false, false, false, false, false, false, false] rfl rfl (by kernel_rfl) (fun _ _ _ h => h) (Or.inl ⟨by rfl, ?_⟩) ?_ ?_
        rotate_left
        · intro w'
          refine exec_eq29s (.tmp 127) (.tmp 128) ?_ t ?_ ?_ Xhs.out <;> rfl
        rotate_left
        · simp only [Act.put, List.setIfInBounds_toArray, List.set_cons_zero, List.set_cons_succ, i64_w, i32_w]
          rfl
        refine pure_ (i := 17) (N := some 130) (v := ?_) (a' := ?_) #[true, true, true, true, true, true, true, true, true, true, true, true, true, true, true, true, true, true, false, false, false, false, false, false, false, false, false, false, false, false, false, false] rfl rfl (by kernel_rfl) (fun _ _ _ h => h) (Or.inl ⟨by rfl, ?_⟩) ?_ ?_
        rotate_left
        · intro w'
          go_simp
          with_reducible rfl
        rotate_left
        · simp only [Act.put, List.setIfInBounds_toArray, List.set_cons_zero, List.set_cons_succ, i64_w, i32_w]
          rfl
        refine pure_ (i := 18) (N := some 131) (v := ?_) (a' := ?_) #[true, true, true, true, true, true, true, true, true, true, true, true, true, true, true, true, true, true, true, false, false, false, false, false, false, false, false, false, false, false, false, false] rfl rfl (by kernel_rfl) (fun _ _ _ h => h) (Or.inl ⟨by rfl, ?_⟩) ?_ ?_
        rotate_left
        · intro w'
          go_simp
          with_reducible rfl
        rotate_left
        · simp only [Act.put, List.setIfInBounds_toArray, List.set_cons_zero, List.set_cons_succ, i64_w, i32_w]
          rfl
        refine pure_ (i := 22) (N := some 135) (v := ?_) (a' := ?_) #[true, true, true, true, true, true, true, true, true, true, true, true, true, true, true, true, true, true, true, false, false, false, true, false, false, false, false, false, false, false, false, false] rfl rfl (by kernel_rfl) (fun _ _ _ h => h) (Or.inl ⟨by rfl, ?_⟩) ?_ ?_
        rotate_left
        · intro w'
          go_simp
          with_reducible rfl
        rotate_left
        · simp only [Act.put, List.setIfInBounds_toArray, List.set_cons_zero, List.set_cons_succ, i64_w, i32_w]
          rfl
        refine pure_ (i := 23) (N := some 136) (v := ?_) (a' := ?_) #[true, true, true, true, true, true, true, true, true, true, true, true, true, true, true, true, true, true, true, false, false, false, true, true, false, false, false, false, false, false, false, false] rfl rfl (by kernel_rfl) (fun _ _ _ h => h) (Or.inl ⟨by rfl, ?_⟩) ?_ ?_
        rotate_left
        · intro w'
          go_simp
          with_reducible rfl
        rotate_left
        · simp only [Act.put, List.setIfInBounds_toArray, List.set_cons_zero, List.set_cons_succ, i64_w, i32_w]
          rfl
        refine pure_ (i := 24) (N := some 137) (v := ?_) (a' := ?_) #[true, true, true, true, true, true, true, true, true, true, true, true, true, true, true, true, true, true, true, false, false, false, true, true, true, false, false, false, false, false, false, false] rfl rfl (by kernel_rfl) (fun _ _ _ h => h) (Or.inl ⟨by rfl, ?_⟩) ?_ ?_
        rotate_left
        · intro w'
          go_simp
          with_reducible rfl
        rotate_left
        · simp only [Act.put, List.setIfInBounds_toArray, List.set_cons_zero, List.set_cons_succ, i64_w, i32_w]
          rfl
        refine pure_ (i := 25) (N := some 138) (v := ?_) (a' := ?_) #[true, true, true, true, true, true, true, true, true, true, true, true, true, true, true, true, true, true, true, false, false, false, true, true, true, true, false, false, false, false, false, false] rfl rfl (by kernel_rfl) (fun _ _ _ h => h) (Or.inl ⟨by rfl, ?_⟩) ?_ ?_
        rotate_left
        · intro w'
          go_simp
          with_reducible rfl
        rotate_left
        · simp only [Act.put, List.setIfInBounds_toArray, List.set_cons_zero, List.set_cons_succ, i64_w, i32_w]
          rfl
        refine take_ (i := 19) (N := some 132) (v := ?_) (a' := ?_) #[true, true, true, true, true, true, true, true, true, true, true, true, true, true, true, true, true, true, true, true, false, false, true, true, true, true, false, false, false, false, false, false] rfl rfl (by kernel_rfl) (fun _ _ _ h => h) (Or.inl ⟨by rfl, ?_⟩) hHeld ?_ ?_
        rotate_left
        · rintro w' ⟨s0, s1, s2, s3, s4, s5⟩
          refine exec_load_row 29 (.tmp 16) ?_ _ ?_ 29 (SV t) (0, 0) _ s2 Try.underlying29 rfl (info29 _) <;> rfl
        rotate_left
        · simp only [Act.put, List.setIfInBounds_toArray, List.set_cons_zero, List.set_cons_succ, i64_w, i32_w]
          rfl
        refine take_ (i := 20) (N := some 133) (v := ?_) (a' := ?_) #[true, true, true, true, true, true, true, true, true, true, true, true, true, true, true, true, true, true, true, true, true, false, true, true, true, true, false, false, false, false, false, false] rfl rfl (by kernel_rfl) (fun _ _ _ h => h) (Or.inl ⟨by rfl, ?_⟩) hHeld ?_ ?_
        rotate_left
        · rintro w' ⟨s0, s1, s2, s3, s4, s5⟩
          refine exec_load_row 29 (.tmp 7) ?_ _ ?_ 29 (SV t) (0, 0) _ s0 Try.underlying29 rfl (info29 _) <;> rfl
        rotate_left
        · simp only [Act.put, List.setIfInBounds_toArray, List.set_cons_zero, List.set_cons_succ, i64_w, i32_w]
          rfl
        refine pure_ (i := 21) (N := some 134) (v := ?_) (a' := ?_) #[true, true, true, true, true, true, true, true, true, true, true, true, true, true, true, true, true, true, true, true, true, true, true, true, true, true, false, false, false, false, false, false] rfl rfl (by kernel_rfl) (fun _ _ _ h => h) (Or.inl ⟨by rfl, ?_⟩) ?_ ?_
        rotate_left
        · intro w'
          refine exec_eq29s (.tmp 132) (.tmp 133) ?_ t ?_ ?_ Xhs.out <;> rfl
        rotate_left
        · simp only [Act.put, List.setIfInBounds_toArray, List.set_cons_zero, List.set_cons_succ, i64_w, i32_w]
          rfl
        refine take_ (i := 26) (N := some 139) (v := ?_) (a' := ?_) #[true, true, true, true, true, true, true, true, true, true, true, true, true, true, true, true, true, true, true, true, true, true, true, true, true, true, true, false, false, false, false, false] rfl rfl (by kernel_rfl) (fun _ _ _ h => h) (Or.inl ⟨by rfl, ?_⟩) hHeld ?_ ?_
        rotate_left
        · rintro w' ⟨s0, s1, s2, s3, s4, s5⟩
          go_simp
          with_reducible rfl
        rotate_left
        · simp only [Act.put, List.setIfInBounds_toArray, List.set_cons_zero, List.set_cons_succ, i64_w, i32_w]
          rfl
        refine pure_ (i := 27) (N := some 140) (v := ?_) (a' := ?_) #[true, true, true, true, true, true, true, true, true, true, true, true, true, true, true, true, true, true, true, true, true, true, true, true, true, true, true, true, false, false, false, false] rfl rfl (by kernel_rfl) (fun _ _ _ h => h) (Or.inl ⟨by rfl, ?_⟩) ?_ ?_
        rotate_left
        · intro w'
          go_simp
          with_reducible rfl
        rotate_left
        · simp only [Act.put, List.setIfInBounds_toArray, List.set_cons_zero, List.set_cons_succ, i64_w, i32_w]
          rfl
        refine pure_ (i := 28) (N := some 141) (v := ?_) (a' := ?_) #[true, true, true, true, true, true, true, true, true, true, true, true, true, true, true, true, true, true, true, true, true, true, true, true, true, true, true, true, true, false, false, false] rfl rfl (by kernel_rfl) (fun _ _ _ h => h) (Or.inl ⟨by rfl, ?_⟩) ?_ ?_
        rotate_left
        · intro w'
          go_simp
          with_reducible rfl
        rotate_left
        · simp only [Act.put, List.setIfInBounds_toArray, List.set_cons_zero, List.set_cons_succ, i64_w, i32_w]
          rfl
        refine pure_ (i := 29) (N := some 142) (v := ?_) (a' := ?_) #[true, true, true, true, true, true, true, true, true, true, true, true, true, true, true, true, true, true, true, true, true, true, true, true, true, true, true, true, true, true, false, false] rfl rfl (by kernel_rfl) (fun _ _ _ h => h) (Or.inl ⟨by rfl, ?_⟩) ?_ ?_
        rotate_left
        · intro w'
          go_simp
          with_reducible rfl
        rotate_left
        · simp only [Act.put, List.setIfInBounds_toArray, List.set_cons_zero, List.set_cons_succ, i64_w, i32_w]
          rfl
        refine pure_ (i := 30) (N := some 143) (v := ?_) (a' := ?_) #[true, true, true, true, true, true, true, true, true, true, true, true, true, true, true, true, true, true, true, true, true, true, true, true, true, true, true, true, true, true, true, false] rfl rfl (by kernel_rfl) (fun _ _ _ h => h) (Or.inl ⟨by rfl, ?_⟩) ?_ ?_
        rotate_left
        · intro w'
          go_simp
          with_reducible rfl
        rotate_left
        · simp only [Act.put, List.setIfInBounds_toArray, List.set_cons_zero, List.set_cons_succ, i64_w, i32_w]
          rfl
        refine pure_ (i := 31) (N := some 6) (v := ?_) (a' := ?_) #[true, true, true, true, true, true, true, true, true, true, true, true, true, true, true, true, true, true, true, true, true, true, true, true, true, true, true, true, true, true, true, true] rfl rfl (by kernel_rfl) (fun _ _ _ h => h) (Or.inl ⟨by rfl, ?_⟩) ?_ ?_
        rotate_left
        · intro w'
          go_simp
          with_reducible rfl
        rotate_left
        · simp only [Act.put, List.setIfInBounds_toArray, List.set_cons_zero, List.set_cons_succ, i64_w, i32_w]
          rfl
        refine done_ (by kernel_rfl) ?_
        go_wp2_with fail
        go_ret
        exact ⟨rfl, below_drew B1059.out⟩
      · have Xhwi := Aside0.mk hwi
        clear hwi
        have Xhu := Aside0.mk hu
        clear hu
        have Xhis := Aside0.mk his
        clear his
        have Xhgv := Aside0.mk hgv
        clear hgv
        have Xhbk2 := Aside0.mk hbk2
        clear hbk2
        have Xhne := Aside0.mk hne
        clear hne
        refine (get_T t pk _ Xhs.out).mono ?_
        rintro e_ w20 ⟨rfl, hb⟩
        have P_1001 := Aside0.mk (blk_below P_901.out hb)
        have S_1002 := Aside0.mk (blk_below S_902.out hb)
        have T_1003 := Aside0.mk (blk_below T_903.out hb)
        have M_1004 := Aside0.mk (M.MapIs.below M_999.out hb)
        have B1005 := Aside0.mk (below_step B904.out hb)
        clear hb P_901 S_902 T_903 M_999 B904
        rw [Xhis.out]
        have HGV := Aside0.mk (show getV t pk ≠ pv from Xhgv.out)
        have HBK2 := Aside0.mk Xhbk2.out
        generalize getV t pk = gv at HGV HBK2
        go_wp2_with (first
          | ((with_reducible refine wpLd 29 (.tmp 7) ?_); refine wpList_load_row_g (by rfl) 29 (.tmp 7) rfl (w3.heap.size) rfl 29 (SV t) (0, 0) _ S_1002.out Try.underlying29 rfl (info29 _) ?_)
          | ((with_reducible refine wpLd 26 (.tmp 5) ?_); refine wpList_load_row_g (by rfl) 26 (.tmp 5) rfl (w.heap.size) rfl 26 (#[.int .u64 pk, .int .u64 pv]) (0, 0) _ P_1001.out Try.underlying26 rfl (by kernel_rfl) ?_))
        refine (with_T t ⟨pk, pv⟩ _ Xhs.out).mono ?_
        rintro e_ w21 ⟨rfl, hb⟩
        rw [Xhwi.out]
        have P_1006 := Aside0.mk (blk_below P_1001.out hb)
        have S_1007 := Aside0.mk (blk_below S_1002.out hb)
        have T_1008 := Aside0.mk (blk_below T_1003.out hb)
        have M_1009 := Aside0.mk (M.MapIs.below M_1004.out hb)
        have B1010 := Aside0.mk (below_step B1005.out hb)
        clear hb P_1001 S_1002 T_1003 M_1004 B1005
        have L_U := Aside0.mk (show w.heap.size ≤ w21.heap.size from B1010.out.size)
        have NE_P_U := Aside0.mk (show w.heap.size ≠ w21.heap.size by have := blk_lt P_1006.out; omega)
        have NE_S_U := Aside0.mk (show w3.heap.size ≠ w21.heap.size by have := blk_lt S_1007.out; omega)
        have NE_T_U := Aside0.mk (show w6.heap.size ≠ w21.heap.size by have := blk_lt T_1008.out; omega)
        have P_1011 := Aside0.mk (blk_alloc P_1006.out (.cells #[.int .i64 0, .int .u64 0, .int .u64 0, .int .u64 0, .int .u64 0, .int .u64 0, .int .u64 0, .int .u64 0, .int .u64 0, .int .u64 0, .int .u64 0, .int .u64 0, .int .u64 0, .int .u64 0, .int .u64 0, .int .u64 0, .int .u64 0, .int .u64 0, .int .u64 0, .int .u64 0, .int .u64 0, .int .u64 0, .int .u64 0, .int .u64 0, .int .u64 0, .int .u64 0, .int .u64 0, .int .u64 0, .int .u64 0, .int .u64 0, .int .u64 0, .int .u64 0, .int .u64 0] 29))
        have S_1012 := Aside0.mk (blk_alloc S_1007.out (.cells #[.int .i64 0, .int .u64 0, .int .u64 0, .int .u64 0, .int .u64 0, .int .u64 0, .int .u64 0, .int .u64 0, .int .u64 0, .int .u64 0, .int .u64 0, .int .u64 0, .int .u64 0, .int .u64 0, .int .u64 0, .int .u64 0, .int .u64 0, .int .u64 0, .int .u64 0, .int .u64 0, .int .u64 0, .int .u64 0, .int .u64 0, .int .u64 0, .int .u64 0, .int .u64 0, .int .u64 0, .int .u64 0, .int .u64 0, .int .u64 0, .int .u64 0, .int .u64 0, .int .u64 0] 29))
        have T_1013 := Aside0.mk (blk_alloc T_1008.out (.cells #[.int .i64 0, .int .u64 0, .int .u64 0, .int .u64 0, .int .u64 0, .int .u64 0, .int .u64 0, .int .u64 0, .int .u64 0, .int .u64 0, .int .u64 0, .int .u64 0, .int .u64 0, .int .u64 0, .int .u64 0, .int .u64 0, .int .u64 0, .int .u64 0, .int .u64 0, .int .u64 0, .int .u64 0, .int .u64 0, .int .u64 0, .int .u64 0, .int .u64 0, .int .u64 0, .int .u64 0, .int .u64 0, .int .u64 0, .int .u64 0, .int .u64 0, .int .u64 0, .int .u64 0] 29))
        have U_1014 := Aside0.mk (blk_new (w21) (.cells #[.int .i64 0, .int .u64 0, .int .u64 0, .int .u64 0, .int .u64 0, .int .u64 0, .int .u64 0, .int .u64 0, .int .u64 0, .int .u64 0, .int .u64 0, .int .u64 0, .int .u64 0, .int .u64 0, .int .u64 0, .int .u64 0, .int .u64 0, .int .u64 0, .int .u64 0, .int .u64 0, .int .u64 0, .int .u64 0, .int .u64 0, .int .u64 0, .int .u64 0, .int .u64 0, .int .u64 0, .int .u64 0, .int .u64 0, .int .u64 0, .int .u64 0, .int .u64 0, .int .u64 0] 29))
        have B1015 := Aside0.mk (below_alloc B1010.out (.cells #[.int .i64 0, .int .u64 0, .int .u64 0, .int .u64 0, .int .u64 0, .int .u64 0, .int .u64 0, .int .u64 0, .int .u64 0, .int .u64 0, .int .u64 0, .int .u64 0, .int .u64 0, .int .u64 0, .int .u64 0, .int .u64 0, .int .u64 0, .int .u64 0, .int .u64 0, .int .u64 0, .int .u64 0, .int .u64 0, .int .u64 0, .int .u64 0, .int .u64 0, .int .u64 0, .int .u64 0, .int .u64 0, .int .u64 0, .int .u64 0, .int .u64 0, .int .u64 0, .int .u64 0] 29))
        clear P_1006 S_1007 T_1008 B1010
        have NE_M_U := Aside0.mk (show wr.heap.size ≠ w21.heap.size by have := M.MapIs.lt M_1009.out; omega)
        have M_1016 := Aside0.mk (M.MapIs.below (M_1009.out) (below_alloc (Below.refl _ _) (.cells #[.int .i64 0, .int .u64 0, .int .u64 0, .int .u64 0, .int .u64 0, .int .u64 0, .int .u64 0, .int .u64 0, .int .u64 0, .int .u64 0, .int .u64 0, .int .u64 0, .int .u64 0, .int .u64 0, .int .u64 0, .int .u64 0, .int .u64 0, .int .u64 0, .int .u64 0, .int .u64 0, .int .u64 0, .int .u64 0, .int .u64 0, .int .u64 0, .int .u64 0, .int .u64 0, .int .u64 0, .int .u64 0, .int .u64 0, .int .u64 0, .int .u64 0, .int .u64 0, .int .u64 0] 29)))
        clear M_1009
        go_wp2_with (first
          | ((with_reducible refine wpSt 29 (.tmp 16) (.tmp 86) ?_); refine store_whole (w := w) (B := w.heap.size) rfl rfl 29 (.tmp 16) (.tmp 86) rfl (g := w21.heap.size) (cs := SV u) rfl _ rfl rfl (stot _) (SV_one _) U_1014.out (by first | (rw [SV_size]; done) | (rw [SV_size, SV_size]; done) | (rw [SV_size]; rfl)) L_U.out B1015.out ?_; intro w_1017 h1 h2 h3 h4; have M_1018 := Aside0.mk (M.MapIs.move M_1016.out (h3 _ NE_M_U.out)); have P_1019 := Aside0.mk ((h3 _ NE_P_U.out).trans P_1011.out); have S_1020 := Aside0.mk ((h3 _ NE_S_U.out).trans S_1012.out); have T_1021 := Aside0.mk ((h3 _ NE_T_U.out).trans T_1013.out); have U_1022 := Aside0.mk (h1); have B1023 := Aside0.mk (h2); clear h1 h2 h3 h4 M_1016 P_1011 S_1012 T_1013 U_1014 B1015; have cq0 : w_1017.cell? ⟨w.heap.size, 0, none⟩ = some (.int .u64 pk) := (blk_cell P_1019.out 0).trans rfl; have cq1 : w_1017.cell? ⟨w.heap.size, 1, none⟩ = some (.int .u64 pv) := (blk_cell P_1019.out 1).trans rfl)
          | ((with_reducible refine wpLd 29 (.tmp 16) ?_); refine wpList_load_row_g (by rfl) 29 (.tmp 16) rfl (w21.heap.size) rfl 29 (SV u) (0, 0) _ U_1022.out Try.underlying29 rfl (info29 _) ?_))
        refine (without_T u pk _ Xhu.out).mono ?_
        rintro e_ w22 ⟨rfl, hb⟩
        have P_1024 := Aside0.mk (blk_below P_1019.out hb)
        have S_1025 := Aside0.mk (blk_below S_1020.out hb)
        have T_1026 := Aside0.mk (blk_below T_1021.out hb)
        have U_1027 := Aside0.mk (blk_below U_1022.out hb)
        have M_1028 := Aside0.mk (M.MapIs.below M_1018.out hb)
        have B1029 := Aside0.mk (below_step B1023.out hb)
        clear hb P_1019 S_1020 T_1021 U_1022 M_1018 B1023
        obtain ⟨bk, hbk⟩ : ∃ bk, withoutV u pk = bk := ⟨_, rfl⟩
        rw [hbk]
        have L_K := Aside0.mk (show w.heap.size ≤ w22.heap.size from B1029.out.size)
        have NE_P_K := Aside0.mk (show w.heap.size ≠ w22.heap.size by have := blk_lt P_1024.out; omega)
        have NE_S_K := Aside0.mk (show w3.heap.size ≠ w22.heap.size by have := blk_lt S_1025.out; omega)
        have NE_T_K := Aside0.mk (show w6.heap.size ≠ w22.heap.size by have := blk_lt T_1026.out; omega)
        have NE_U_K := Aside0.mk (show w21.heap.size ≠ w22.heap.size by have := blk_lt U_1027.out; omega)
        have P_1030 := Aside0.mk (blk_alloc P_1024.out (.cells #[.int .i64 0, .int .u64 0, .int .u64 0, .int .u64 0, .int .u64 0, .int .u64 0, .int .u64 0, .int .u64 0, .int .u64 0, .int .u64 0, .int .u64 0, .int .u64 0, .int .u64 0, .int .u64 0, .int .u64 0, .int .u64 0, .int .u64 0, .int .u64 0, .int .u64 0, .int .u64 0, .int .u64 0, .int .u64 0, .int .u64 0, .int .u64 0, .int .u64 0, .int .u64 0, .int .u64 0, .int .u64 0, .int .u64 0, .int .u64 0, .int .u64 0, .int .u64 0, .int .u64 0] 29))
        have S_1031 := Aside0.mk (blk_alloc S_1025.out (.cells #[.int .i64 0, .int .u64 0, .int .u64 0, .int .u64 0, .int .u64 0, .int .u64 0, .int .u64 0, .int .u64 0, .int .u64 0, .int .u64 0, .int .u64 0, .int .u64 0, .int .u64 0, .int .u64 0, .int .u64 0, .int .u64 0, .int .u64 0, .int .u64 0, .int .u64 0, .int .u64 0, .int .u64 0, .int .u64 0, .int .u64 0, .int .u64 0, .int .u64 0, .int .u64 0, .int .u64 0, .int .u64 0, .int .u64 0, .int .u64 0, .int .u64 0, .int .u64 0, .int .u64 0] 29))
        have T_1032 := Aside0.mk (blk_alloc T_1026.out (.cells #[.int .i64 0, .int .u64 0, .int .u64 0, .int .u64 0, .int .u64 0, .int .u64 0, .int .u64 0, .int .u64 0, .int .u64 0, .int .u64 0, .int .u64 0, .int .u64 0, .int .u64 0, .int .u64 0, .int .u64 0, .int .u64 0, .int .u64 0, .int .u64 0, .int .u64 0, .int .u64 0, .int .u64 0, .int .u64 0, .int .u64 0, .int .u64 0, .int .u64 0, .int .u64 0, .int .u64 0, .int .u64 0, .int .u64 0, .int .u64 0, .int .u64 0, .int .u64 0, .int .u64 0] 29))
        have U_1033 := Aside0.mk (blk_alloc U_1027.out (.cells #[.int .i64 0, .int .u64 0, .int .u64 0, .int .u64 0, .int .u64 0, .int .u64 0, .int .u64 0, .int .u64 0, .int .u64 0, .int .u64 0, .int .u64 0, .int .u64 0, .int .u64 0, .int .u64 0, .int .u64 0, .int .u64 0, .int .u64 0, .int .u64 0, .int .u64 0, .int .u64 0, .int .u64 0, .int .u64 0, .int .u64 0, .int .u64 0, .int .u64 0, .int .u64 0, .int .u64 0, .int .u64 0, .int .u64 0, .int .u64 0, .int .u64 0, .int .u64 0, .int .u64 0] 29))
        have K_1034 := Aside0.mk (blk_new (w22) (.cells #[.int .i64 0, .int .u64 0, .int .u64 0, .int .u64 0, .int .u64 0, .int .u64 0, .int .u64 0, .int .u64 0, .int .u64 0, .int .u64 0, .int .u64 0, .int .u64 0, .int .u64 0, .int .u64 0, .int .u64 0, .int .u64 0, .int .u64 0, .int .u64 0, .int .u64 0, .int .u64 0, .int .u64 0, .int .u64 0, .int .u64 0, .int .u64 0, .int .u64 0, .int .u64 0, .int .u64 0, .int .u64 0, .int .u64 0, .int .u64 0, .int .u64 0, .int .u64 0, .int .u64 0] 29))
        have B1035 := Aside0.mk (below_alloc B1029.out (.cells #[.int .i64 0, .int .u64 0, .int .u64 0, .int .u64 0, .int .u64 0, .int .u64 0, .int .u64 0, .int .u64 0, .int .u64 0, .int .u64 0, .int .u64 0, .int .u64 0, .int .u64 0, .int .u64 0, .int .u64 0, .int .u64 0, .int .u64 0, .int .u64 0, .int .u64 0, .int .u64 0, .int .u64 0, .int .u64 0, .int .u64 0, .int .u64 0, .int .u64 0, .int .u64 0, .int .u64 0, .int .u64 0, .int .u64 0, .int .u64 0, .int .u64 0, .int .u64 0, .int .u64 0] 29))
        clear P_1024 S_1025 T_1026 U_1027 B1029
        have NE_M_K := Aside0.mk (show wr.heap.size ≠ w22.heap.size by have := M.MapIs.lt M_1028.out; omega)
        have M_1036 := Aside0.mk (M.MapIs.below (M_1028.out) (below_alloc (Below.refl _ _) (.cells #[.int .i64 0, .int .u64 0, .int .u64 0, .int .u64 0, .int .u64 0, .int .u64 0, .int .u64 0, .int .u64 0, .int .u64 0, .int .u64 0, .int .u64 0, .int .u64 0, .int .u64 0, .int .u64 0, .int .u64 0, .int .u64 0, .int .u64 0, .int .u64 0, .int .u64 0, .int .u64 0, .int .u64 0, .int .u64 0, .int .u64 0, .int .u64 0, .int .u64 0, .int .u64 0, .int .u64 0, .int .u64 0, .int .u64 0, .int .u64 0, .int .u64 0, .int .u64 0, .int .u64 0] 29)))
        clear M_1028
        go_wp2_with (first
          | ((with_reducible refine wpSt 29 (.tmp 18) (.tmp 102) ?_); refine store_whole (w := w) (B := w.heap.size) rfl rfl 29 (.tmp 18) (.tmp 102) rfl (g := w22.heap.size) (cs := SV bk) rfl _ rfl rfl (stot _) (SV_one _) K_1034.out (by first | (rw [SV_size]; done) | (rw [SV_size, SV_size]; done) | (rw [SV_size]; rfl)) L_K.out B1035.out ?_; intro w_1037 h1 h2 h3 h4; have M_1038 := Aside0.mk (M.MapIs.move M_1036.out (h3 _ NE_M_K.out)); have P_1039 := Aside0.mk ((h3 _ NE_P_K.out).trans P_1030.out); have S_1040 := Aside0.mk ((h3 _ NE_S_K.out).trans S_1031.out); have T_1041 := Aside0.mk ((h3 _ NE_T_K.out).trans T_1032.out); have U_1042 := Aside0.mk ((h3 _ NE_U_K.out).trans U_1033.out); have K_1043 := Aside0.mk (h1); have B1044 := Aside0.mk (h2); clear h1 h2 h3 h4 M_1036 P_1030 S_1031 T_1032 U_1033 K_1034 B1035; have cr0 : w_1037.cell? ⟨w.heap.size, 0, none⟩ = some (.int .u64 pk) := (blk_cell P_1039.out 0).trans rfl; have cr1 : w_1037.cell? ⟨w.heap.size, 1, none⟩ = some (.int .u64 pv) := (blk_cell P_1039.out 1).trans rfl)
          | ((with_reducible refine wpLd 29 (.tmp 18) ?_); refine wpList_load_row_g (by rfl) 29 (.tmp 18) rfl (w22.heap.size) rfl 29 (SV bk) (0, 0) _ K_1043.out Try.underlying29 rfl (info29 _) ?_))
        refine (with_T bk ⟨pk, gv⟩ _ (by rw [← hbk]; exact withoutV_le u pk Xhu.out)).mono ?_
        rintro e_ w23 ⟨rfl, hb⟩
        have P_1045 := Aside0.mk (blk_below P_1039.out hb)
        have S_1046 := Aside0.mk (blk_below S_1040.out hb)
        have T_1047 := Aside0.mk (blk_below T_1041.out hb)
        have U_1048 := Aside0.mk (blk_below U_1042.out hb)
        have K_1049 := Aside0.mk (blk_below K_1043.out hb)
        have M_1050 := Aside0.mk (M.MapIs.below M_1038.out hb)
        have B1051 := Aside0.mk (below_step B1044.out hb)
        clear hb P_1039 S_1040 T_1041 U_1042 K_1043 M_1038 B1044
        rw [show withV bk ⟨pk, gv⟩ = (t, 0) from by rw [← hbk]; exact HBK2.out]
        go_wp2_with (first
          | ((with_reducible refine wpSt 29 (.tmp 18) (.tmp 111) ?_); refine store_whole (w := w) (B := w.heap.size) rfl rfl 29 (.tmp 18) (.tmp 111) rfl (g := w22.heap.size) (cs := SV t) rfl _ rfl rfl (stot _) (SV_one _) K_1049.out (by first | (rw [SV_size]; done) | (rw [SV_size, SV_size]; done) | (rw [SV_size]; rfl)) L_K.out B1051.out ?_; intro w_1052 h1 h2 h3 h4; have M_1053 := Aside0.mk (M.MapIs.move M_1050.out (h3 _ NE_M_K.out)); have P_1054 := Aside0.mk ((h3 _ NE_P_K.out).trans P_1045.out); have S_1055 := Aside0.mk ((h3 _ NE_S_K.out).trans S_1046.out); have T_1056 := Aside0.mk ((h3 _ NE_T_K.out).trans T_1047.out); have U_1057 := Aside0.mk ((h3 _ NE_U_K.out).trans U_1048.out); have K_1058 := Aside0.mk (h1); have B1059 := Aside0.mk (h2); clear h1 h2 h3 h4 M_1050 P_1045 S_1046 T_1047 U_1048 K_1049 B1051))
        have tg : (gv == pv) = false := beq_eq_false_iff_ne.2 HGV.out
        have tg2 := eq_false HGV.out
        refine start_ (n := 32) (S := fun w' => w'.heap[w3.heap.size]? = some (.cells (SV t) 29 (0, 0)) ∧ w'.heap[w6.heap.size]? = some (.cells (SV t) 29 (0, 0)) ∧ w'.heap[w21.heap.size]? = some (.cells (SV u) 29 (0, 0)) ∧ w'.heap[w22.heap.size]? = some (.cells (SV t) 29 (0, 0)) ∧ M.MapIs e29 eI w' wr.heap.size (M.put [] ⟨t, Xhs.out⟩ 1) ∧ w'.cell? ⟨w.heap.size, 1, none⟩ = some (.int .u64 pv)) (ds := []) #[false, false, false, false, false, false, false, false, false, false, false, false, false, false, false, false, false, false, false, false, false, false, false, false, false, false, false, false, false, false, false, false] (by kernel_rfl) rfl rfl ⟨blk_drew S_1055.out, blk_drew T_1056.out, blk_drew U_1057.out, blk_drew K_1058.out, M.MapIs.below M_1053.out (below_drew (Below.refl _ _)), (blk_cell (blk_drew P_1054.out) 1).trans rfl⟩ (fun hHeld => ?_)
        refine take_ (i := 0) (N := some 113) (v := ?_) (a' := ?_) #[true, false, false, false, false, false, false, false, false, false, false, false, false, false, false, false, false, false, false, false, false, false, false, false, false, false, false, false, false, false, false, false] rfl rfl (by kernel_rfl) (fun _ _ _ h => h) (Or.inl ⟨by rfl, ?_⟩) hHeld ?_ ?_
        rotate_left
        · rintro w' ⟨s0, s1, s2, s3, s4, s5⟩
          refine exec_load_row 29 (.tmp 7) ?_ _ ?_ 29 (SV t) (0, 0) _ s0 Try.underlying29 rfl (info29 _) <;> rfl
        rotate_left
        · simp only [Act.put, List.setIfInBounds_toArray, List.set_cons_zero, List.set_cons_succ, i64_w, i32_w]
          rfl
        refine take_ (i := 1) (N := some 114) (v := ?_) (a' := ?_) #[true, true, false, false, false, false, false, false, false, false, false, false, false, false, false, false, false, false, false, false, false, false, false, false, false, false, false, false, false, false, false, false] rfl rfl (by kernel_rfl) (fun _ _ _ h => h) (Or.inl ⟨by rfl, ?_⟩) hHeld ?_ ?_
        rotate_left
        · rintro w' ⟨s0, s1, s2, s3, s4, s5⟩
          refine exec_load_row 29 (.tmp 10) ?_ _ ?_ 29 (SV t) (0, 0) _ s1 Try.underlying29 rfl (info29 _) <;> rfl
        rotate_left
        · simp only [Act.put, List.setIfInBounds_toArray, List.set_cons_zero, List.set_cons_succ, i64_w, i32_w]
          rfl
        refine pure_ (i := 2) (N := some 115) (v := ?_) (a' := ?_) #[true, true, true, false, false, false, false, false, false, false, false, false, false, false, false, false, false, false, false, false, false, false, false, false, false, false, false, false, false, false, false, false] rfl rfl (by kernel_rfl) (fun _ _ _ h => h) (Or.inl ⟨by rfl, ?_⟩) ?_ ?_
        rotate_left
        · intro w'
          refine exec_eq29s (.tmp 113) (.tmp 114) ?_ t ?_ ?_ Xhs.out <;> rfl
        rotate_left
        · simp only [Act.put, List.setIfInBounds_toArray, List.set_cons_zero, List.set_cons_succ, i64_w, i32_w]
          rfl
        refine pure_ (i := 3) (N := some 116) (v := ?_) (a' := ?_) #[true, true, true, true, false, false, false, false, false, false, false, false, false, false, false, false, false, false, false, false, false, false, false, false, false, false, false, false, false, false, false, false] rfl rfl (by kernel_rfl) (fun _ _ _ h => h) (Or.inl ⟨by rfl, ?_⟩) ?_ ?_
        rotate_left
        · intro w'
          go_simp
          with_reducible rfl
        rotate_left
        · simp only [Act.put, List.setIfInBounds_toArray, List.set_cons_zero, List.set_cons_succ, i64_w, i32_w]
          rfl
        refine pure_ (i := 4) (N := some 117) (v := ?_) (a' := ?_) #[true, true, true, true, true, false, false, false, false, false, false, false, false, false, false, false, false, false, false, false, false, false, false, false, false, false, false, false, false, false, false, false] rfl rfl (by kernel_rfl) (fun _ _ _ h => h) (Or.inl ⟨by rfl, ?_⟩) ?_ ?_
        rotate_left
        · intro w'
          go_simp
          with_reducible rfl
        rotate_left
        · simp only [Act.put, List.setIfInBounds_toArray, List.set_cons_zero, List.set_cons_succ, i64_w, i32_w]
          rfl
        refine take_ (i := 5) (N := some 118) (v := ?_) (a' := ?_) #[true, true, true, true, true, true, false, false, false, false, false, false, false, false, false, false, false, false, false, false, false, false, false, false, false, false, false, false, false, false, false, false] rfl rfl (by kernel_rfl) (fun _ _ _ h => h) (Or.inl ⟨by rfl, ?_⟩) hHeld ?_ ?_
        rotate_left
        · rintro w' ⟨s0, s1, s2, s3, s4, s5⟩
          refine exec_load_row 29 (.tmp 10) ?_ _ ?_ 29 (SV t) (0, 0) _ s1 Try.underlying29 rfl (info29 _) <;> rfl
        rotate_left
        · simp only [Act.put, List.setIfInBounds_toArray, List.set_cons_zero, List.set_cons_succ, i64_w, i32_w]
          rfl
        refine take_ (i := 6) (N := some 119) (v := ?_) (a' := ?_) #[true, true, true, true, true, true, true, false, false, false, false, false, false, false, false, false, false, false, false, false, false, false, false, false, false, false, false, false, false, false, false, false] rfl rfl (by kernel_rfl) (fun _ _ _ h => h) (Or.inl ⟨by rfl, ?_⟩) hHeld ?_ ?_
        rotate_left
        · rintro w' ⟨s0, s1, s2, s3, s4, s5⟩
          refine exec_lk (.tmp 117) (.tmp 118) ?_ wr.heap.size ?_ t Xhs.out ?_ _ s4 1 (by rw [M.get_put, if_pos rfl]; rfl) <;> rfl
        rotate_left
        · simp only [Act.put, List.setIfInBounds_toArray, List.set_cons_zero, List.set_cons_succ, i64_w, i32_w]
          rfl
        refine pure_ (i := 7) (N := some 120) (v := ?_) (a' := ?_) #[true, true, true, true, true, true, true, true, false, false, false, false, false, false, false, false, false, false, false, false, false, false, false, false, false, false, false, false, false, false, false, false] rfl rfl (by kernel_rfl) (fun _ _ _ h => h) (Or.inl ⟨by rfl, ?_⟩) ?_ ?_
        rotate_left
        · intro w'
          go_simp
          with_reducible rfl
        rotate_left
        · simp only [Act.put, List.setIfInBounds_toArray, List.set_cons_zero, List.set_cons_succ, i64_w, i32_w]
          rfl
        refine pure_ (i := 8) (N := some 121) (v := ?_) (a' := ?_) #[true, true, true, true, true, true, true, true, true, false, false, false, false, false, false, false, false, false, false, false, false, false, false, false, false, false, false, false, false, false, false, false] rfl rfl (by kernel_rfl) (fun _ _ _ h => h) (Or.inl ⟨by rfl, ?_⟩) ?_ ?_
        rotate_left
        · intro w'
          go_simp
          with_reducible rfl
        rotate_left
        · simp only [Act.put, List.setIfInBounds_toArray, List.set_cons_zero, List.set_cons_succ, i64_w, i32_w]
          rfl
        refine pure_ (i := 9) (N := some 122) (v := ?_) (a' := ?_) #[true, true, true, true, true, true, true, true, true, true, false, false, false, false, false, false, false, false, false, false, false, false, false, false, false, false, false, false, false, false, false, false] rfl rfl (by kernel_rfl) (fun _ _ _ h => h) (Or.inl ⟨by rfl, ?_⟩) ?_ ?_
        rotate_left
        · intro w'
          go_simp
          with_reducible rfl
        rotate_left
        · simp only [Act.put, List.setIfInBounds_toArray, List.set_cons_zero, List.set_cons_succ, i64_w, i32_w]
          rfl
        refine pure_ (i := 10) (N := some 123) (v := ?_) (a' := ?_) #[true, true, true, true, true, true, true, true, true, true, true, false, false, false, false, false, false, false, false, false, false, false, false, false, false, false, false, false, false, false, false, false] rfl rfl (by kernel_rfl) (fun _ _ _ h => h) (Or.inl ⟨by rfl, ?_⟩) ?_ ?_
        rotate_left
        · intro w'
          go_simp
          with_reducible rfl
        rotate_left
        · simp only [Act.put, List.setIfInBounds_toArray, List.set_cons_zero, List.set_cons_succ, i64_w, i32_w]
          rfl
        refine pure_ (i := 11) (N := some 124) (v := ?_) (a' := ?_) #[true, true, true, true, true, true, true, true, true, true, true, true, false, false, false, false, false, false, false, false, false, false, false, false, false, false, false, false, false, false, false, false] rfl rfl (by kernel_rfl) (fun _ _ _ h => h) (Or.inl ⟨by rfl, ?_⟩) ?_ ?_
        rotate_left
        · intro w'
          go_simp
          with_reducible rfl
        rotate_left
        · simp only [Act.put, List.setIfInBounds_toArray, List.set_cons_zero, List.set_cons_succ, i64_w, i32_w]
          rfl
        refine pure_ (i := 12) (N := some 125) (v := ?_) (a' := ?_) #[true, true, true, true, true, true, true, true, true, true, true, true, true, false, false, false, false, false, false, false, false, false, false, false, false, false, false, false, false, false, false, false] rfl rfl (by kernel_rfl) (fun _ _ _ h => h) (Or.inl ⟨by rfl, ?_⟩) ?_ ?_
        rotate_left
        · intro w'
          go_simp
          with_reducible rfl
        rotate_left
        · simp only [Act.put, List.setIfInBounds_toArray, List.set_cons_zero, List.set_cons_succ, i64_w, i32_w]
          rfl
        refine pure_ (i := 13) (N := some 126) (v := ?_) (a' := ?_) #[true, true, true, true, true, true, true, true, true, true, true, true, true, true, false, false, false, false, false, false, false, false, false, false, false, false, false, false, false, false, false, false] rfl rfl (by kernel_rfl) (fun _ _ _ h => h) (Or.inl ⟨by rfl, ?_⟩) ?_ ?_
        rotate_left
        · intro w'
          go_simp
          with_reducible rfl
        rotate_left
        · simp only [Act.put, List.setIfInBounds_toArray, List.set_cons_zero, List.set_cons_succ, i64_w, i32_w]
          rfl
        refine take_ (i := 14) (N := some 127) (v := ?_) (a' := ?_) #[true, true, true, true, true, true, true, true, true, true, true, true, true, true, true, false, false, false, false, false, false, false, false, false, false, false, false, false, false, false, false, false] rfl rfl (by kernel_rfl) (fun _ _ _ h => h) (Or.inl ⟨by rfl, ?_⟩) hHeld ?_ ?_
        rotate_left
        · rintro w' ⟨s0, s1, s2, s3, s4, s5⟩
          refine exec_load_row 29 (.tmp 18) ?_ _ ?_ 29 (SV t) (0, 0) _ s3 Try.underlying29 rfl (info29 _) <;> rfl
        rotate_left
        · simp only [Act.put, List.setIfInBounds_toArray, List.set_cons_zero, List.set_cons_succ, i64_w, i32_w]
          rfl
        refine take_ (i := 15) (N := some 128) (v := ?_) (a' := ?_) #[true, true, true, true, true, true, true, true, true, true, true, true, true, true, true, true, false, false, false, false, false, false, false, false, false, false, false, false, false, false, false, false] rfl rfl (by kernel_rfl) (fun _ _ _ h => h) (Or.inl ⟨by rfl, ?_⟩) hHeld ?_ ?_
        rotate_left
        · rintro w' ⟨s0, s1, s2, s3, s4, s5⟩
          refine exec_load_row 29 (.tmp 7) ?_ _ ?_ 29 (SV t) (0, 0) _ s0 Try.underlying29 rfl (info29 _) <;> rfl
        rotate_left
        · simp only [Act.put, List.setIfInBounds_toArray, List.set_cons_zero, List.set_cons_succ, i64_w, i32_w]
          rfl
        refine pure_ (i := 16) (N := some 129) (v := ?_) (a' := ?_) #[true, true, true, true, true, true, true, true, true, true, true, true, true, true, true, true, true, false, false, false, false, false, false, false, false, false, false, false, false, false, false, false] rfl rfl (by kernel_rfl) (fun _ _ _ h => h) (Or.inl ⟨by rfl, ?_⟩) ?_ ?_
        rotate_left
        · intro w'
          refine exec_eq29s (.tmp 127) (.tmp 128) ?_ t ?_ ?_ Xhs.out <;> rfl
        rotate_left
        · simp only [Act.put, List.setIfInBounds_toArray, List.set_cons_zero, List.set_cons_succ, i64_w, i32_w]
          rfl
        refine pure_ (i := 17) (N := some 130) (v := ?_) (a' := ?_) #[true, true, true, true, true, true, true, true, true, true, true, true, true, true, true, true, true, true, false, false, false, false, false, false, false, false, false, false, false, false, false, false] rfl rfl (by kernel_rfl) (fun _ _ _ h => h) (Or.inl ⟨by rfl, ?_⟩) ?_ ?_
        rotate_left
        · intro w'
          go_simp
          with_reducible rfl
        rotate_left
        · simp only [Act.put, List.setIfInBounds_toArray, List.set_cons_zero, List.set_cons_succ, i64_w, i32_w]
          rfl
        refine pure_ (i := 18) (N := some 131) (v := ?_) (a' := ?_) #[true, true, true, true, true, true, true, true, true, true, true, true, true, true, true, true, true, true, true, false, false, false, false, false, false, false, false, false, false, false, false, false] rfl rfl (by kernel_rfl) (fun _ _ _ h => h) (Or.inl ⟨by rfl, ?_⟩) ?_ ?_
        rotate_left
        · intro w'
          go_simp
          with_reducible rfl
        rotate_left
        · simp only [Act.put, List.setIfInBounds_toArray, List.set_cons_zero, List.set_cons_succ, i64_w, i32_w]
          rfl
        refine pure_ (i := 22) (N := some 135) (v := ?_) (a' := ?_) #[true, true, true, true, true, true, true, true, true, true, true, true, true, true, true, true, true, true, true, false, false, false, true, false, false, false, false, false, false, false, false, false] rfl rfl (by kernel_rfl) (fun _ _ _ h => h) (Or.inl ⟨by rfl, ?_⟩) ?_ ?_
        rotate_left
        · intro w'
          go_simp
          with_reducible rfl
        rotate_left
        · simp only [Act.put, List.setIfInBounds_toArray, List.set_cons_zero, List.set_cons_succ, i64_w, i32_w]
          rfl
        refine pure_ (i := 23) (N := some 136) (v := ?_) (a' := ?_) #[true, true, true, true, true, true, true, true, true, true, true, true, true, true, true, true, true, true, true, false, false, false, true, true, false, false, false, false, false, false, false, false] rfl rfl (by kernel_rfl) (fun _ _ _ h => h) (Or.inl ⟨by rfl, ?_⟩) ?_ ?_
        rotate_left
        · intro w'
          go_simp
          with_reducible rfl
        rotate_left
        · simp only [Act.put, List.setIfInBounds_toArray, List.set_cons_zero, List.set_cons_succ, i64_w, i32_w]
          rfl
        refine pure_ (i := 24) (N := some 137) (v := ?_) (a' := ?_) #[true, true, true, true, true, true, true, true, true, true, true, true, true, true, true, true, true, true, true, false, false, false, true, true, true, false, false, false, false, false, false, false] rfl rfl (by kernel_rfl) (fun _ _ _ h => h) (Or.inl ⟨by rfl, ?_⟩) ?_ ?_
        rotate_left
        · intro w'
          go_simp
          with_reducible rfl
        rotate_left
        · simp only [Act.put, List.setIfInBounds_toArray, List.set_cons_zero, List.set_cons_succ, i64_w, i32_w]
          rfl
        refine pure_ (i := 25) (N := some 138) (v := ?_) (a' := ?_) #[true, true, true, true, true, true, true, true, true, true, true, true, true, true, true, true, true, true, true, false, false, false, true, true, true, true, false, false, false, false, false, false] rfl rfl (by kernel_rfl) (fun _ _ _ h => h) (Or.inl ⟨by rfl, ?_⟩) ?_ ?_
        rotate_left
        · intro w'
          go_simp
          with_reducible rfl
        rotate_left
        · simp only [Act.put, List.setIfInBounds_toArray, List.set_cons_zero, List.set_cons_succ, i64_w, i32_w]
          rfl
        refine take_ (i := 19) (N := some 132) (v := ?_) (a' := ?_) #[true, true, true, true, true, true, true, true, true, true, true, true, true, true, true, true, true, true, true, true, false, false, true, true, true, true, false, false, false, false, false, false] rfl rfl (by kernel_rfl) (fun _ _ _ h => h) (Or.inl ⟨by rfl, ?_⟩) hHeld ?_ ?_
        rotate_left
        · rintro w' ⟨s0, s1, s2, s3, s4, s5⟩
          refine exec_load_row 29 (.tmp 16) ?_ _ ?_ 29 (SV u) (0, 0) _ s2 Try.underlying29 rfl (info29 _) <;> rfl
        rotate_left
        · simp only [Act.put, List.setIfInBounds_toArray, List.set_cons_zero, List.set_cons_succ, i64_w, i32_w]
          rfl
        refine take_ (i := 20) (N := some 133) (v := ?_) (a' := ?_) #[true, true, true, true, true, true, true, true, true, true, true, true, true, true, true, true, true, true, true, true, true, false, true, true, true, true, false, false, false, false, false, false] rfl rfl (by kernel_rfl) (fun _ _ _ h => h) (Or.inl ⟨by rfl, ?_⟩) hHeld ?_ ?_
        rotate_left
        · rintro w' ⟨s0, s1, s2, s3, s4, s5⟩
          refine exec_load_row 29 (.tmp 7) ?_ _ ?_ 29 (SV t) (0, 0) _ s0 Try.underlying29 rfl (info29 _) <;> rfl
        rotate_left
        · simp only [Act.put, List.setIfInBounds_toArray, List.set_cons_zero, List.set_cons_succ, i64_w, i32_w]
          rfl
        refine pure_ (i := 21) (N := some 134) (v := ?_) (a' := ?_) #[true, true, true, true, true, true, true, true, true, true, true, true, true, true, true, true, true, true, true, true, true, true, true, true, true, true, false, false, false, false, false, false] rfl rfl (by kernel_rfl) (fun _ _ _ h => h) (Or.inl ⟨by rfl, ?_⟩) ?_ ?_
        rotate_left
        · intro w'
          refine exec_eq29n (.tmp 132) (.tmp 133) ?_ u t ?_ ?_ Xhu.out Xhne.out <;> rfl
        rotate_left
        · simp only [Act.put, List.setIfInBounds_toArray, List.set_cons_zero, List.set_cons_succ, i64_w, i32_w]
          rfl
        refine take_ (i := 26) (N := some 139) (v := ?_) (a' := ?_) #[true, true, true, true, true, true, true, true, true, true, true, true, true, true, true, true, true, true, true, true, true, true, true, true, true, true, true, false, false, false, false, false] rfl rfl (by kernel_rfl) (fun _ _ _ h => h) (Or.inl ⟨by rfl, ?_⟩) hHeld ?_ ?_
        rotate_left
        · rintro w' ⟨s0, s1, s2, s3, s4, s5⟩
          go_simp
          with_reducible rfl
        rotate_left
        · simp only [Act.put, List.setIfInBounds_toArray, List.set_cons_zero, List.set_cons_succ, i64_w, i32_w]
          rfl
        refine pure_ (i := 27) (N := some 140) (v := ?_) (a' := ?_) #[true, true, true, true, true, true, true, true, true, true, true, true, true, true, true, true, true, true, true, true, true, true, true, true, true, true, true, true, false, false, false, false] rfl rfl (by kernel_rfl) (fun _ _ _ h => h) (Or.inl ⟨by rfl, ?_⟩) ?_ ?_
        rotate_left
        · intro w'
          go_simp
          with_reducible rfl
        rotate_left
        · simp only [Act.put, List.setIfInBounds_toArray, List.set_cons_zero, List.set_cons_succ, i64_w, i32_w]
          rfl
        refine pure_ (i := 28) (N := some 141) (v := ?_) (a' := ?_) #[true, true, true, true, true, true, true, true, true, true, true, true, true, true, true, true, true, true, true, true, true, true, true, true, true, true, true, true, true, false, false, false] rfl rfl (by kernel_rfl) (fun _ _ _ h => h) (Or.inl ⟨by rfl, ?_⟩) ?_ ?_
        rotate_left
        · intro w'
          go_simp
          with_reducible rfl
        rotate_left
        · simp only [Act.put, List.setIfInBounds_toArray, List.set_cons_zero, List.set_cons_succ, i64_w, i32_w]
          rfl
        refine pure_ (i := 29) (N := some 142) (v := ?_) (a' := ?_) #[true, true, true, true, true, true, true, true, true, true, true, true, true, true, true, true, true, true, true, true, true, true, true, true, true, true, true, true, true, true, false, false] rfl rfl (by kernel_rfl) (fun _ _ _ h => h) (Or.inl ⟨by rfl, ?_⟩) ?_ ?_
        rotate_left
        · intro w'
          go_simp
          with_reducible rfl
        rotate_left
        · simp only [Act.put, List.setIfInBounds_toArray, List.set_cons_zero, List.set_cons_succ, i64_w, i32_w]
          rfl
        refine pure_ (i := 30) (N := some 143) (v := ?_) (a' := ?_) #[true, true, true, true, true, true, true, true, true, true, true, true, true, true, true, true, true, true, true, true, true, true, true, true, true, true, true, true, true, true, true, false] rfl rfl (by kernel_rfl) (fun _ _ _ h => h) (Or.inl ⟨by rfl, ?_⟩) ?_ ?_
        rotate_left
        · intro w'
          go_simp
          with_reducible rfl
        rotate_left
        · simp only [Act.put, List.setIfInBounds_toArray, List.set_cons_zero, List.set_cons_succ, i64_w, i32_w]
          rfl
        refine pure_ (i := 31) (N := some 6) (v := ?_) (a' := ?_) #[true, true, true, true, true, true, true, true, true, true, true, true, true, true, true, true, true, true, true, true, true, true, true, true, true, true, true, true, true, true, true, true] rfl rfl (by kernel_rfl) (fun _ _ _ h => h) (Or.inl ⟨by rfl, ?_⟩) ?_ ?_
        rotate_left
        · intro w'
          go_simp
          with_reducible rfl
        rotate_left
        · simp only [Act.put, List.setIfInBounds_toArray, List.set_cons_zero, List.set_cons_succ, i64_w, i32_w]
          rfl
        refine done_ (by kernel_rfl) ?_
        go_wp2_with fail
        go_ret
        exact ⟨rfl, below_drew B1059.out⟩
theorem values_T (A : Option Addr) (c : Nat) (l : List S26) (Ap : Option Addr) (cp : Nat) (picks : List Int) (pk pv : Int) (w : World) (hC : Kd.C k26 w A l.length l) (hcc : l.length ≤ c) (hg : l.length ≤ 4611686018427387904) (hCp : Kd.C (Kd.int .i64) w Ap picks.length picks) (hcp : picks.length ≤ cp) :
    Calls Try.prog 5 #[.slice A l.length c, .slice Ap picks.length cp, .agg #[.int .u64 pk, .int .u64 pv]] w fun e w' => e = .returned (.bool true) ∧ Below w.heap.size w w' := by
  obtain ⟨hn1, hn2⟩ := newV_st l
  by_cases ht : (stl l).2 = true
  · exact values_err A c l Ap cp picks pk pv _ 1 w hC hcc hg hCp hcp (hn1 ht) (by decide)
  have ht := Bool.eq_false_iff.2 ht
  obtain ⟨ha, ⟨hf, s, hs0, hr, hs⟩ | ⟨hnw, hf⟩⟩ := hn2 ht
  · have hap : (stl l).1 = l.map c57 := (st_app l [] ht).trans (List.nil_append _)
    rw [hap] at hr
    refine values_ok A c l Ap cp picks pk pv s w hC hcc hg hCp hcp hs0 hr hs hf ?_
    have hle := withV_le s ⟨pk, pv⟩ hs
    obtain ⟨u, e, hwi⟩ : ∃ u e, withV s ⟨pk, pv⟩ = (u, e) := ⟨_, _, rfl⟩
    have hle : u.length ≤ 16 := by rw [hwi] at hle; exact hle
    by_cases he : e = 0
    · subst he
      obtain ⟨b1, b2⟩ := back_l hr.srt hs ⟨pk, pv⟩ (by rw [hwi])
      rw [hwi] at b1 b2
      rcases Bool.eq_false_or_eq_true (isF pk s) with hF | hF
      rotate_left
      · obtain ⟨c1, c2⟩ := b1 hF
        exact .inr (.inl ⟨u, hwi, hle, hF, c1, c2⟩)
      · obtain ⟨c1, c2⟩ := b2 hF
        by_cases hv : getV s pk = pv
        · exact .inr (.inr (.inl ⟨u, hwi, hle, hF, hv, (by have c1 : withV (withoutV u pk) ⟨pk, getV s pk⟩ = (s, 0) := c1; rw [hv] at c1; exact c1), c2.2 hv⟩))
        · exact .inr (.inr (.inr ⟨u, hwi, hle, hF, hv, c1, fun h => hv (c2.1 h)⟩))
    · exact .inl ⟨u, e, hwi, he⟩
  · exact values_err A c l Ap cp picks pk pv _ 6 w hC hcc hg hCp hcp hnw (by decide)
def revenantlaw21_SpecValues.f (xs : List S26) (ps : List Int) (a2_0 a2_1 : Int) : Option Bool := if xs.length ≤ 4611686018427387904 then some true else none
theorem revenantlaw21_SpecValues.calls (A0_ : Option Addr) (c0 : Nat) (xs : List S26) (A1_ : Option Addr) (c1 : Nat) (ps : List Int) (a2_0 a2_1 : Int) (r : Bool) (w : World) (hr0 : Kd.C k26 w A0_ xs.length xs) (hc0 : xs.length ≤ c0) (hr1 : Kd.C (Kd.int .i64) w A1_ ps.length ps) (hc1 : ps.length ≤ c1) (h : revenantlaw21_SpecValues.f xs ps a2_0 a2_1 = some r) :
    Calls Try.prog 5 #[.slice A0_ xs.length c0, .slice A1_ ps.length c1, .agg #[.int .u64 a2_0, .int .u64 a2_1]] w fun e w' => e = .returned (.bool r) ∧ Below w.heap.size w w' := by
  unfold revenantlaw21_SpecValues.f at h
  by_cases hb : xs.length ≤ 4611686018427387904
  · rw [if_pos hb] at h
    obtain rfl := Option.some.inj h
    exact values_T A0_ c0 xs A1_ c1 ps _ _ w hr0 hc0 hb hr1 hc1
  · rw [if_neg hb] at h; cases h
theorem RSpecValues (xs : List S26) (ps : List Int) (a2_0 a2_1 : Int) {P Q R S : Prop} (g : P ∧ xs.length * 16 ≤ 140737488351232 ∧ Q) (_ : R) (_ : S) : revenantlaw21_SpecValues.f xs ps a2_0 a2_1 = some true := if_pos (by have := g.2.1; omega)
end Go.Proofs.Ytcphmelmieedfab.PSpecExact

