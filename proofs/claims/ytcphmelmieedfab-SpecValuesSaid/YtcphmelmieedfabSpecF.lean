/-
States compared; awake of layer 21 answers true.
-/
import Derived.ChangeKeysEq
import Derived.Test.YtcphmelmieedfabSpecE
namespace Go.Proofs.Ytcphmelmieedfab.PSpecExact
open Go Go.RowKit Go.Proofs.YtcphmelmieedfabW.PrintWords Go.Proofs.YtcphmelmieedfabW.PrintLast Go.Proofs.YtcphmelmieedfabW.PrintMore
set_option linter.unusedVariables false
set_option linter.unusedSimpArgs false
instance : DecidableEq S26 := fun a b => if h : a.f0 = b.f0 ∧ a.f1 = b.f1 then isTrue (by cases a; cases b; simp_all) else isFalse (fun e => h (by rw [e]; exact ⟨rfl, rfl⟩))
theorem ext2 {cs : Array Value} {j : Nat} {a b : Value} (ha : cs[j]? = some a) (hb : cs[j + 1]? = some b) : cs.extract j (j + 2) = #[a, b] := by
  have h1 : j + 1 < cs.size := (Array.getElem?_eq_some_iff.1 hb).1
  apply Array.ext_getElem?
  intro i
  rw [Array.getElem?_extract]
  match i with
  | 0 => rw [if_pos (by omega), Nat.add_zero, ha]; rfl
  | 1 => rw [if_pos (by omega), hb]; rfl
  | i + 2 => rw [if_neg (by omega)]; simp
def PV (l : List S26) : Array Value := (SV l).extract 1 (1 + 32)
theorem PV_get (l : List S26) {j : Nat} (h : j < 32) : (PV l)[j]? = (SV l)[1 + j]? := by
  have := SV_size l
  unfold PV
  rw [Array.getElem?_extract, if_pos (by omega)]
theorem PV_k (l : List S26) {i : Nat} (h : i < 16) : (PV l)[i * 2]? = some (.int .u64 (kOf l i)) := by rw [PV_get l (by omega), show 1 + i * 2 = 1 + 2 * i by omega, SV_k l h]
theorem PV_v (l : List S26) {i : Nat} (h : i < 16) : (PV l)[i * 2 + 1]? = some (.int .u64 (vOf l i)) := by rw [PV_get l (by omega), show 1 + (i * 2 + 1) = 1 + 2 * i + 1 by omega, SV_v l h]
theorem fields26 : (Try.prog.fieldsOf 26).toList = [{ name := "Key", type := 23, offset := 0, embedded := false, tag := "", pkgPath := "", byteOffset := 0 }, { name := "Val", type := 23, offset := 1, embedded := false, tag := "", pkgPath := "", byteOffset := 8 }] := by kernel_rfl
theorem fields29 : (Try.prog.fieldsOf 29).toList = [{ name := "n", type := 3, offset := 0, embedded := false, tag := "", pkgPath := "revenant/spec", byteOffset := 0 }, { name := "pairs", type := 27, offset := 1, embedded := false, tag := "", pkgPath := "revenant/spec", byteOffset := 8 }] := by kernel_rfl
theorem eqPair (d : Nat) (a b c e : Int) (w : World) : (Op.equalIn (d + 2) 26 (.agg #[.int .u64 a, .int .u64 b]) (.agg #[.int .u64 c, .int .u64 e])).run Try.prog w = .ok (a == c && b == e) w := by
  rw [run_equalIn_struct w (d + 1) 26 _ _ (by kernel_rfl) (by kernel_rfl), fields26]
  have p1 : ∀ (x y : Int) (w : World), (part 23 #[.int .u64 x, .int .u64 y] 0).run Try.prog w = .ok (.int .u64 x) w := fun x y w => by simp [part, isAgg, run_underlying Try.underlying23]
  have p2 : ∀ (x y : Int) (w : World), (part 23 #[.int .u64 x, .int .u64 y] 1).run Try.prog w = .ok (.int .u64 y) w := fun x y w => by simp [part, isAgg, run_underlying Try.underlying23]
  have q : ∀ (x y : Int) (w : World), (Op.equalIn (d + 1) 23 (.int .u64 x) (.int .u64 y)).run Try.prog w = .ok (x == y) w := fun x y w => run_equalIn_int w d 23 .u64 .u64 x y Try.underlying23
  cases h1 : (a == c) <;> cases h2 : (b == e) <;> simp [Op.eqFields, p1, p2, q, h1, h2]
theorem items_run (w : World) (d : Nat) (xs ys : Array Value) (ka va kb vb : Nat → Int) : ∀ is : List Nat,
    (∀ i ∈ is, (xs[i * 2]? = some (.int .u64 (ka i)) ∧ xs[i * 2 + 1]? = some (.int .u64 (va i))) ∧ (ys[i * 2]? = some (.int .u64 (kb i)) ∧ ys[i * 2 + 1]? = some (.int .u64 (vb i)))) →
    (Op.eqItems (d + 2) 26 2 xs ys is).run Try.prog w = .ok (is.all fun i => ka i == kb i && va i == vb i) w
  | [], _ => by simp [Op.eqItems]
  | i :: is, h => by
    have ih := items_run w d xs ys ka va kb vb is (fun j hj => h j (by simp [hj]))
    obtain ⟨⟨a1, a2⟩, b1, b2⟩ := h i (by simp)
    have hs : (sizeOf 26).run Try.prog w = .ok 2 w := by kernel_rfl
    have pa : (part 26 xs (i * 2)).run Try.prog w = .ok (.agg #[.int .u64 (ka i), .int .u64 (va i)]) w := by
      simp [part, isAgg, run_underlying Try.underlying26, hs, ext2 a1 a2]
    have pb : (part 26 ys (i * 2)).run Try.prog w = .ok (.agg #[.int .u64 (kb i), .int .u64 (vb i)]) w := by
      simp [part, isAgg, run_underlying Try.underlying26, hs, ext2 b1 b2]
    simp only [Op.eqItems, Sem.run_bind, pa, pb, Result.andThen_ok, eqPair, List.all_cons]
    cases (ka i == kb i && va i == vb i)
    · simp
    · simpa using ih
theorem eqPairs (d : Nat) (l r : List S26) (w : World) : (Op.equalIn (d + 3) 27 (.agg (PV l)) (.agg (PV r))).run Try.prog w = .ok ((List.range 16).all fun i => kOf l i == kOf r i && vOf l i == vOf r i) w := by
  obtain ⟨i, hi⟩ := info_of_underlying Try.underlying26
  rw [run_equalIn_array w (d + 2) (PV l) (PV r) (n := 16) (e := 26) (by kernel_rfl) hi, show Try.prog.cellsOf 26 = 2 by kernel_rfl]
  exact items_run w d _ _ _ _ _ _ (List.range 16) (fun i hi => ⟨⟨PV_k l (List.mem_range.1 hi), PV_v l (List.mem_range.1 hi)⟩, PV_k r (List.mem_range.1 hi), PV_v r (List.mem_range.1 hi)⟩)
theorem eqState (d : Nat) {l r : List S26} (hl : l.length ≤ 16) (w : World) : (Op.equalIn (d + 4) 29 (.agg (SV l)) (.agg (SV r))).run Try.prog w = .ok (decide (l = r)) w := by
  rw [run_equalIn_struct w (d + 3) 29 _ _ (by kernel_rfl) (by kernel_rfl), fields29]
  have p1 : ∀ (l : List S26) (w : World), (part 3 (SV l) 0).run Try.prog w = .ok (.int .i64 l.length) w := fun l w => by simp [part, isAgg, run_underlying Try.underlying3, SV_0]
  have hs : ∀ w : World, (sizeOf 27).run Try.prog w = .ok 32 w := fun w => by kernel_rfl
  have p2 : ∀ (l : List S26) (w : World), (part 27 (SV l) 1).run Try.prog w = .ok (.agg (PV l)) w := fun l w => by simp [part, isAgg, run_underlying Try.underlying27, hs, PV]
  have q : ∀ (x y : Int) (w : World), (Op.equalIn (d + 3) 3 (.int .i64 x) (.int .i64 y)).run Try.prog w = .ok (x == y) w := fun x y w => run_equalIn_int w (d + 2) 3 .i64 .i64 x y Try.underlying3
  have key : (((l.length : Int) == r.length) && ((List.range 16).all fun i => kOf l i == kOf r i && vOf l i == vOf r i)) = decide (l = r) := by
    apply Bool.eq_iff_iff.2
    simp only [Bool.and_eq_true, beq_iff_eq, List.all_eq_true, List.mem_range, decide_eq_true_eq]
    constructor
    · rintro ⟨h0, h⟩
      refine SV_inj hl (SV_ext (SV_size l) ?_ (fun i hi => ⟨?_, ?_⟩))
      · rw [SV_0, h0]
      · rw [SV_k l hi, (h i hi).1]
      · rw [SV_v l hi, (h i hi).2]
    · rintro rfl
      simp
  rw [← key]
  cases h1 : ((l.length : Int) == r.length)
  · simp [Op.eqFields, p1, q, h1]
  · have h3 := eqPairs d l r w
    clear key
    generalize ((List.range 16).all fun i => kOf l i == kOf r i && vOf l i == vOf r i) = z at h3 ⊢
    cases z <;> simp [Op.eqFields, p1, p2, q, h1, h3]
theorem exec_eq29 {o : Oper} {a : Act} {w : World} (p q : Operand) (ho : o.op = .binOp .eql 29 p q 29) (l r : List S26) (hp : a.eval p = .agg (SV l)) (hq : a.eval q = .agg (SV r)) (hl : l.length ≤ 16) : (execOp a.eval o).run Try.prog w = .ok (.value (.bool (decide (l = r)))) w := by
  have h := eqState (10000 - 4) (r := r) hl w
  unfold execOp
  simp only [ho, hp, hq]
  have g : ∀ op, (eqGuard op 29 p q (.agg (SV l)) (.agg (SV r))).run Try.prog w = .ok () w := fun op => run_eqGuard_agg w op 29 p q _ _ (by kernel_rfl)
  simp [g, Go.binOp, Op.binOp, Op.equal, Op.maxDepth, h]
theorem exec_ne29 {o : Oper} {a : Act} {w : World} (p q : Operand) (ho : o.op = .binOp .neq 29 p q 29) (l r : List S26) (hp : a.eval p = .agg (SV l)) (hq : a.eval q = .agg (SV r)) (hl : l.length ≤ 16) : (execOp a.eval o).run Try.prog w = .ok (.value (.bool (!decide (l = r)))) w := by
  have h := eqState (10000 - 4) (r := r) hl w
  unfold execOp
  simp only [ho, hp, hq]
  have g : ∀ op, (eqGuard op 29 p q (.agg (SV l)) (.agg (SV r))).run Try.prog w = .ok () w := fun op => run_eqGuard_agg w op 29 p q _ _ (by kernel_rfl)
  simp [g, Go.binOp, Op.binOp, Op.equal, Op.maxDepth, h]
end Go.Proofs.Ytcphmelmieedfab.PSpecExact

namespace Go.Proofs.Ytcphmelmieedfab.PSpecExact
open Go Go.RowKit Go.Proofs.YtcphmelmieedfabW.PrintWords Go.Proofs.YtcphmelmieedfabW.PrintLast Go.Proofs.YtcphmelmieedfabW.PrintMore
attribute [local go_sem] max2_int min2_int max_two min_two max_three min_three max_four min_four
set_option linter.unusedVariables false
set_option linter.unusedSimpArgs false
def s1 : List S26 := [⟨1, 5⟩]
theorem aw1 : doV [] 4 1 5 = (s1, (0, false, 0), 0) := by decide
theorem aw2 : doV s1 5 1 6 = (s1, (0, false, 5), 0) := by decide
theorem aw3 : getV s1 1 = 5 := by decide
theorem aw3b : isF 1 s1 = true := by decide
theorem aw4 : mayV s1 1 2 0 (6, false, 0) = (s1, true) := by decide
theorem aw5 : mayV s1 7 1 0 (0, false, 0) = ([], false) := by decide
theorem s1_le : s1.length ≤ 16 := by decide
theorem exec_eq29s {o : Oper} {a : Act} {w : World} (p q : Operand) (ho : o.op = .binOp .eql 29 p q 29) (l : List S26) (hp : a.eval p = .agg (SV l)) (hq : a.eval q = .agg (SV l)) (hl : l.length ≤ 16) : (execOp a.eval o).run Try.prog w = .ok (.value (.bool true)) w := by
  rw [exec_eq29 p q ho l l hp hq hl, decide_eq_true rfl]
set_option maxHeartbeats 8000000 in
set_option maxRecDepth 100000 in
theorem awake_T (w : World) : Calls Try.prog 8 #[] w fun e w' => e = .returned (.bool true) ∧ Below w.heap.size w w' := by
  have hu29 := Try.underlying29
  have hu39 := Try.underlying39
  have hu35 := Try.underlying35
  have L_X1 := Aside0.mk (show w.heap.size ≤ w.heap.size from Nat.le_refl _)
  have X1_1 := Aside0.mk (blk_new w (.cells #[.int .i64 0, .int .u64 0, .int .u64 0, .int .u64 0, .int .u64 0, .int .u64 0, .int .u64 0, .int .u64 0, .int .u64 0, .int .u64 0, .int .u64 0, .int .u64 0, .int .u64 0, .int .u64 0, .int .u64 0, .int .u64 0, .int .u64 0, .int .u64 0, .int .u64 0, .int .u64 0, .int .u64 0, .int .u64 0, .int .u64 0, .int .u64 0, .int .u64 0, .int .u64 0, .int .u64 0, .int .u64 0, .int .u64 0, .int .u64 0, .int .u64 0, .int .u64 0, .int .u64 0] 29))
  have B2 := Aside0.mk (below_alloc (Below.refl w.heap.size w) (.cells #[.int .i64 0, .int .u64 0, .int .u64 0, .int .u64 0, .int .u64 0, .int .u64 0, .int .u64 0, .int .u64 0, .int .u64 0, .int .u64 0, .int .u64 0, .int .u64 0, .int .u64 0, .int .u64 0, .int .u64 0, .int .u64 0, .int .u64 0, .int .u64 0, .int .u64 0, .int .u64 0, .int .u64 0, .int .u64 0, .int .u64 0, .int .u64 0, .int .u64 0, .int .u64 0, .int .u64 0, .int .u64 0, .int .u64 0, .int .u64 0, .int .u64 0, .int .u64 0, .int .u64 0] 29))
  go_enter Try.func8, Try.ntmps8
  go_wp2_with (first
    | (refine store_whole (w := w) (B := w.heap.size) rfl rfl 29 (.tmp 1) (.tmp 13) rfl (g := w.heap.size) (cs := SV []) rfl _ rfl rfl (stot _) (SV_one _) X1_1.out (by first | (rw [SV_size]; done) | (rw [SV_size, SV_size]; done) | (rw [SV_size]; rfl)) L_X1.out B2.out ?_; intro w_3 h1 h2 h3 h4; have X1_4 := Aside0.mk (h1); have B5 := Aside0.mk (h2); clear h1 h2 h3 h4 X1_1 B2)
    | (refine wpList_load_row_g (by rfl) 29 (.tmp 1) rfl (w.heap.size) rfl 29 (SV []) (0, 0) _ X1_4.out Try.underlying29 rfl (info29 _) ?_))
  refine (do_T [] 4 1 5 0 _ (by decide)).mono ?_
  rintro e_ w2 ⟨rfl, hb⟩
  rw [aw1]
  have X1_6 := Aside0.mk (blk_below X1_4.out hb)
  have B7 := Aside0.mk (below_step B5.out hb)
  clear hb X1_4 B5
  have L_X2 := Aside0.mk (show w.heap.size ≤ w2.heap.size from B7.out.size)
  have NE_X1_X2 := Aside0.mk (show w.heap.size ≠ w2.heap.size by have := blk_lt X1_6.out; omega)
  have X1_8 := Aside0.mk (blk_alloc X1_6.out (.cells #[.int .i64 0, .bool false, .int .u64 0] 35))
  have X2_9 := Aside0.mk (blk_new w2 (.cells #[.int .i64 0, .bool false, .int .u64 0] 35))
  have B10 := Aside0.mk (below_alloc B7.out (.cells #[.int .i64 0, .bool false, .int .u64 0] 35))
  clear X1_6 B7
  go_wp2_with (first
    | (refine store_whole (w := w) (B := w.heap.size) rfl rfl 29 (.tmp 1) (.tmp 18) rfl (g := w.heap.size) (cs := SV s1) rfl _ rfl rfl (stot _) (SV_one _) X1_8.out (by first | (rw [SV_size]; done) | (rw [SV_size, SV_size]; done) | (rw [SV_size]; rfl)) L_X1.out B10.out ?_; intro w_11 h1 h2 h3 h4; have X1_12 := Aside0.mk (h1); have X2_13 := Aside0.mk ((h3 _ (Ne.symm NE_X1_X2.out)).trans X2_9.out); have B14 := Aside0.mk (h2); clear h1 h2 h3 h4 X1_8 X2_9 B10)
    | (refine store_whole (w := w) (B := w.heap.size) rfl rfl 35 (.tmp 2) (.tmp 19) rfl (g := w2.heap.size) (cs := #[.int .i64 0, .bool false, .int .u64 0]) rfl _ rfl rfl (by kernel_rfl) (by simp [Value.oneCell']) X2_13.out (rfl) L_X2.out B14.out ?_; intro w_15 h1 h2 h3 h4; have X1_16 := Aside0.mk ((h3 _ NE_X1_X2.out).trans X1_12.out); have X2_17 := Aside0.mk (h1); have B18 := Aside0.mk (h2); clear h1 h2 h3 h4 X1_12 X2_13 B14)
    | (refine wpList_load_row_g (by rfl) 29 (.tmp 1) rfl (w.heap.size) rfl 29 (SV s1) (0, 0) _ X1_16.out Try.underlying29 rfl (info29 _) ?_))
  refine (do_T s1 5 1 6 0 _ s1_le).mono ?_
  rintro e_ w3 ⟨rfl, hb⟩
  rw [aw2]
  have X1_19 := Aside0.mk (blk_below X1_16.out hb)
  have X2_20 := Aside0.mk (blk_below X2_17.out hb)
  have B21 := Aside0.mk (below_step B18.out hb)
  clear hb X1_16 X2_17 B18
  have L_X4 := Aside0.mk (show w.heap.size ≤ w3.heap.size from B21.out.size)
  have NE_X1_X4 := Aside0.mk (show w.heap.size ≠ w3.heap.size by have := blk_lt X1_19.out; omega)
  have NE_X2_X4 := Aside0.mk (show w2.heap.size ≠ w3.heap.size by have := blk_lt X2_20.out; omega)
  have L_X5 := Aside0.mk (show w.heap.size ≤ w3.heap.size + 1 from by have := L_X4.out; omega)
  have NE_X1_X5 := Aside0.mk (show w.heap.size ≠ w3.heap.size + 1 by have := blk_lt X1_19.out; omega)
  have NE_X2_X5 := Aside0.mk (show w2.heap.size ≠ w3.heap.size + 1 by have := blk_lt X2_20.out; omega)
  have NE_X4_X5 := Aside0.mk (show w3.heap.size ≠ w3.heap.size + 1 by omega)
  have X1_22 := Aside0.mk (blk_alloc (blk_alloc X1_19.out (.cells #[.int .i64 0, .int .u64 0, .int .u64 0, .int .u64 0, .int .u64 0, .int .u64 0, .int .u64 0, .int .u64 0, .int .u64 0, .int .u64 0, .int .u64 0, .int .u64 0, .int .u64 0, .int .u64 0, .int .u64 0, .int .u64 0, .int .u64 0, .int .u64 0, .int .u64 0, .int .u64 0, .int .u64 0, .int .u64 0, .int .u64 0, .int .u64 0, .int .u64 0, .int .u64 0, .int .u64 0, .int .u64 0, .int .u64 0, .int .u64 0, .int .u64 0, .int .u64 0, .int .u64 0] 29)) (.cells #[.int .i64 0, .bool false, .int .u64 0] 35))
  have X2_23 := Aside0.mk (blk_alloc (blk_alloc X2_20.out (.cells #[.int .i64 0, .int .u64 0, .int .u64 0, .int .u64 0, .int .u64 0, .int .u64 0, .int .u64 0, .int .u64 0, .int .u64 0, .int .u64 0, .int .u64 0, .int .u64 0, .int .u64 0, .int .u64 0, .int .u64 0, .int .u64 0, .int .u64 0, .int .u64 0, .int .u64 0, .int .u64 0, .int .u64 0, .int .u64 0, .int .u64 0, .int .u64 0, .int .u64 0, .int .u64 0, .int .u64 0, .int .u64 0, .int .u64 0, .int .u64 0, .int .u64 0, .int .u64 0, .int .u64 0] 29)) (.cells #[.int .i64 0, .bool false, .int .u64 0] 35))
  have X4_24 := Aside0.mk (blk_alloc (blk_new w3 (.cells #[.int .i64 0, .int .u64 0, .int .u64 0, .int .u64 0, .int .u64 0, .int .u64 0, .int .u64 0, .int .u64 0, .int .u64 0, .int .u64 0, .int .u64 0, .int .u64 0, .int .u64 0, .int .u64 0, .int .u64 0, .int .u64 0, .int .u64 0, .int .u64 0, .int .u64 0, .int .u64 0, .int .u64 0, .int .u64 0, .int .u64 0, .int .u64 0, .int .u64 0, .int .u64 0, .int .u64 0, .int .u64 0, .int .u64 0, .int .u64 0, .int .u64 0, .int .u64 0, .int .u64 0] 29)) (.cells #[.int .i64 0, .bool false, .int .u64 0] 35))
  have X5_25 := Aside0.mk (blk_new2 w3 (.cells #[.int .i64 0, .int .u64 0, .int .u64 0, .int .u64 0, .int .u64 0, .int .u64 0, .int .u64 0, .int .u64 0, .int .u64 0, .int .u64 0, .int .u64 0, .int .u64 0, .int .u64 0, .int .u64 0, .int .u64 0, .int .u64 0, .int .u64 0, .int .u64 0, .int .u64 0, .int .u64 0, .int .u64 0, .int .u64 0, .int .u64 0, .int .u64 0, .int .u64 0, .int .u64 0, .int .u64 0, .int .u64 0, .int .u64 0, .int .u64 0, .int .u64 0, .int .u64 0, .int .u64 0] 29) (.cells #[.int .i64 0, .bool false, .int .u64 0] 35))
  have B26 := Aside0.mk (below_alloc (below_alloc B21.out (.cells #[.int .i64 0, .int .u64 0, .int .u64 0, .int .u64 0, .int .u64 0, .int .u64 0, .int .u64 0, .int .u64 0, .int .u64 0, .int .u64 0, .int .u64 0, .int .u64 0, .int .u64 0, .int .u64 0, .int .u64 0, .int .u64 0, .int .u64 0, .int .u64 0, .int .u64 0, .int .u64 0, .int .u64 0, .int .u64 0, .int .u64 0, .int .u64 0, .int .u64 0, .int .u64 0, .int .u64 0, .int .u64 0, .int .u64 0, .int .u64 0, .int .u64 0, .int .u64 0, .int .u64 0] 29)) (.cells #[.int .i64 0, .bool false, .int .u64 0] 35))
  clear X1_19 X2_20 B21
  go_wp2_with (first
    | (refine store_whole (w := w) (B := w.heap.size) rfl rfl 29 (.tmp 4) (.tmp 25) rfl (g := w3.heap.size) (cs := SV s1) rfl _ rfl rfl (stot _) (SV_one _) X4_24.out (by first | (rw [SV_size]; done) | (rw [SV_size, SV_size]; done) | (rw [SV_size]; rfl)) L_X4.out B26.out ?_; intro w_27 h1 h2 h3 h4; have X1_28 := Aside0.mk ((h3 _ NE_X1_X4.out).trans X1_22.out); have X2_29 := Aside0.mk ((h3 _ NE_X2_X4.out).trans X2_23.out); have X4_30 := Aside0.mk (h1); have X5_31 := Aside0.mk ((h3 _ (Ne.symm NE_X4_X5.out)).trans X5_25.out); have B32 := Aside0.mk (h2); clear h1 h2 h3 h4 X1_22 X2_23 X4_24 X5_25 B26)
    | (refine store_whole (w := w) (B := w.heap.size) rfl rfl 35 (.tmp 5) (.tmp 26) rfl (g := w3.heap.size + 1) (cs := #[.int .i64 0, .bool false, .int .u64 5]) rfl _ rfl rfl (by kernel_rfl) (by simp [Value.oneCell']) X5_31.out (rfl) L_X5.out B32.out ?_; intro w_33 h1 h2 h3 h4; have X1_34 := Aside0.mk ((h3 _ NE_X1_X5.out).trans X1_28.out); have X2_35 := Aside0.mk ((h3 _ NE_X2_X5.out).trans X2_29.out); have X4_36 := Aside0.mk ((h3 _ NE_X4_X5.out).trans X4_30.out); have X5_37 := Aside0.mk (h1); have B38 := Aside0.mk (h2); clear h1 h2 h3 h4 X1_28 X2_29 X4_30 X5_31 B32)
    | (refine wpList_load_row_g (by rfl) 29 (.tmp 4) rfl (w3.heap.size) rfl 29 (SV s1) (0, 0) _ X4_36.out Try.underlying29 rfl (info29 _) ?_))
  refine (get_T s1 1 _ s1_le).mono ?_
  rintro e_ w4 ⟨rfl, hb⟩
  rw [aw3, aw3b]
  have X1_39 := Aside0.mk (blk_below X1_34.out hb)
  have X2_40 := Aside0.mk (blk_below X2_35.out hb)
  have X4_41 := Aside0.mk (blk_below X4_36.out hb)
  have X5_42 := Aside0.mk (blk_below X5_37.out hb)
  have B43 := Aside0.mk (below_step B38.out hb)
  clear hb X1_34 X2_35 X4_36 X5_37 B38
  go_wp2_with (first
    | (refine wpList_load_row_g (by rfl) 29 (.tmp 4) rfl (w3.heap.size) rfl 29 (SV s1) (0, 0) _ X4_41.out Try.underlying29 rfl (info29 _) ?_))
  refine (may_T s1 1 2 0 0 6 false 0 _ s1_le).mono ?_
  rintro e_ w5 ⟨rfl, hb⟩
  rw [aw4]
  have X1_44 := Aside0.mk (blk_below X1_39.out hb)
  have X2_45 := Aside0.mk (blk_below X2_40.out hb)
  have X4_46 := Aside0.mk (blk_below X4_41.out hb)
  have X5_47 := Aside0.mk (blk_below X5_42.out hb)
  have B48 := Aside0.mk (below_step B43.out hb)
  clear hb X1_39 X2_40 X4_41 X5_42 B43
  have L_X9 := Aside0.mk (show w.heap.size ≤ w5.heap.size from B48.out.size)
  have NE_X1_X9 := Aside0.mk (show w.heap.size ≠ w5.heap.size by have := blk_lt X1_44.out; omega)
  have NE_X2_X9 := Aside0.mk (show w2.heap.size ≠ w5.heap.size by have := blk_lt X2_45.out; omega)
  have NE_X4_X9 := Aside0.mk (show w3.heap.size ≠ w5.heap.size by have := blk_lt X4_46.out; omega)
  have NE_X5_X9 := Aside0.mk (show w3.heap.size + 1 ≠ w5.heap.size by have := blk_lt X5_47.out; omega)
  have X1_49 := Aside0.mk (blk_alloc X1_44.out (.cells #[.int .i64 0, .int .u64 0, .int .u64 0, .int .u64 0, .int .u64 0, .int .u64 0, .int .u64 0, .int .u64 0, .int .u64 0, .int .u64 0, .int .u64 0, .int .u64 0, .int .u64 0, .int .u64 0, .int .u64 0, .int .u64 0, .int .u64 0, .int .u64 0, .int .u64 0, .int .u64 0, .int .u64 0, .int .u64 0, .int .u64 0, .int .u64 0, .int .u64 0, .int .u64 0, .int .u64 0, .int .u64 0, .int .u64 0, .int .u64 0, .int .u64 0, .int .u64 0, .int .u64 0] 29))
  have X2_50 := Aside0.mk (blk_alloc X2_45.out (.cells #[.int .i64 0, .int .u64 0, .int .u64 0, .int .u64 0, .int .u64 0, .int .u64 0, .int .u64 0, .int .u64 0, .int .u64 0, .int .u64 0, .int .u64 0, .int .u64 0, .int .u64 0, .int .u64 0, .int .u64 0, .int .u64 0, .int .u64 0, .int .u64 0, .int .u64 0, .int .u64 0, .int .u64 0, .int .u64 0, .int .u64 0, .int .u64 0, .int .u64 0, .int .u64 0, .int .u64 0, .int .u64 0, .int .u64 0, .int .u64 0, .int .u64 0, .int .u64 0, .int .u64 0] 29))
  have X4_51 := Aside0.mk (blk_alloc X4_46.out (.cells #[.int .i64 0, .int .u64 0, .int .u64 0, .int .u64 0, .int .u64 0, .int .u64 0, .int .u64 0, .int .u64 0, .int .u64 0, .int .u64 0, .int .u64 0, .int .u64 0, .int .u64 0, .int .u64 0, .int .u64 0, .int .u64 0, .int .u64 0, .int .u64 0, .int .u64 0, .int .u64 0, .int .u64 0, .int .u64 0, .int .u64 0, .int .u64 0, .int .u64 0, .int .u64 0, .int .u64 0, .int .u64 0, .int .u64 0, .int .u64 0, .int .u64 0, .int .u64 0, .int .u64 0] 29))
  have X5_52 := Aside0.mk (blk_alloc X5_47.out (.cells #[.int .i64 0, .int .u64 0, .int .u64 0, .int .u64 0, .int .u64 0, .int .u64 0, .int .u64 0, .int .u64 0, .int .u64 0, .int .u64 0, .int .u64 0, .int .u64 0, .int .u64 0, .int .u64 0, .int .u64 0, .int .u64 0, .int .u64 0, .int .u64 0, .int .u64 0, .int .u64 0, .int .u64 0, .int .u64 0, .int .u64 0, .int .u64 0, .int .u64 0, .int .u64 0, .int .u64 0, .int .u64 0, .int .u64 0, .int .u64 0, .int .u64 0, .int .u64 0, .int .u64 0] 29))
  have X9_53 := Aside0.mk (blk_new w5 (.cells #[.int .i64 0, .int .u64 0, .int .u64 0, .int .u64 0, .int .u64 0, .int .u64 0, .int .u64 0, .int .u64 0, .int .u64 0, .int .u64 0, .int .u64 0, .int .u64 0, .int .u64 0, .int .u64 0, .int .u64 0, .int .u64 0, .int .u64 0, .int .u64 0, .int .u64 0, .int .u64 0, .int .u64 0, .int .u64 0, .int .u64 0, .int .u64 0, .int .u64 0, .int .u64 0, .int .u64 0, .int .u64 0, .int .u64 0, .int .u64 0, .int .u64 0, .int .u64 0, .int .u64 0] 29))
  have B54 := Aside0.mk (below_alloc B48.out (.cells #[.int .i64 0, .int .u64 0, .int .u64 0, .int .u64 0, .int .u64 0, .int .u64 0, .int .u64 0, .int .u64 0, .int .u64 0, .int .u64 0, .int .u64 0, .int .u64 0, .int .u64 0, .int .u64 0, .int .u64 0, .int .u64 0, .int .u64 0, .int .u64 0, .int .u64 0, .int .u64 0, .int .u64 0, .int .u64 0, .int .u64 0, .int .u64 0, .int .u64 0, .int .u64 0, .int .u64 0, .int .u64 0, .int .u64 0, .int .u64 0, .int .u64 0, .int .u64 0, .int .u64 0] 29))
  clear X1_44 X2_45 X4_46 X5_47 B48
  go_wp2_with (first
    | (refine store_whole (w := w) (B := w.heap.size) rfl rfl 29 (.tmp 9) (.tmp 38) rfl (g := w5.heap.size) (cs := SV s1) rfl _ rfl rfl (stot _) (SV_one _) X9_53.out (by first | (rw [SV_size]; done) | (rw [SV_size, SV_size]; done) | (rw [SV_size]; rfl)) L_X9.out B54.out ?_; intro w_55 h1 h2 h3 h4; have X1_56 := Aside0.mk ((h3 _ NE_X1_X9.out).trans X1_49.out); have X2_57 := Aside0.mk ((h3 _ NE_X2_X9.out).trans X2_50.out); have X4_58 := Aside0.mk ((h3 _ NE_X4_X9.out).trans X4_51.out); have X5_59 := Aside0.mk ((h3 _ NE_X5_X9.out).trans X5_52.out); have X9_60 := Aside0.mk (h1); have B61 := Aside0.mk (h2); clear h1 h2 h3 h4 X1_49 X2_50 X4_51 X5_52 X9_53 B54)
    | (refine wpList_load_row_g (by rfl) 29 (.tmp 4) rfl (w3.heap.size) rfl 29 (SV s1) (0, 0) _ X4_58.out Try.underlying29 rfl (info29 _) ?_))
  refine (may_T s1 7 1 0 0 0 false 0 _ s1_le).mono ?_
  rintro e_ w6 ⟨rfl, hb⟩
  rw [aw5]
  have X1_62 := Aside0.mk (blk_below X1_56.out hb)
  have X2_63 := Aside0.mk (blk_below X2_57.out hb)
  have X4_64 := Aside0.mk (blk_below X4_58.out hb)
  have X5_65 := Aside0.mk (blk_below X5_59.out hb)
  have X9_66 := Aside0.mk (blk_below X9_60.out hb)
  have B67 := Aside0.mk (below_step B61.out hb)
  clear hb X1_56 X2_57 X4_58 X5_59 X9_60 B61
  have L_X11 := Aside0.mk (show w.heap.size ≤ w6.heap.size from B67.out.size)
  have NE_X1_X11 := Aside0.mk (show w.heap.size ≠ w6.heap.size by have := blk_lt X1_62.out; omega)
  have NE_X2_X11 := Aside0.mk (show w2.heap.size ≠ w6.heap.size by have := blk_lt X2_63.out; omega)
  have NE_X4_X11 := Aside0.mk (show w3.heap.size ≠ w6.heap.size by have := blk_lt X4_64.out; omega)
  have NE_X5_X11 := Aside0.mk (show w3.heap.size + 1 ≠ w6.heap.size by have := blk_lt X5_65.out; omega)
  have NE_X9_X11 := Aside0.mk (show w5.heap.size ≠ w6.heap.size by have := blk_lt X9_66.out; omega)
  have X1_68 := Aside0.mk (blk_alloc X1_62.out (.cells #[.int .i64 0, .int .u64 0, .int .u64 0, .int .u64 0, .int .u64 0, .int .u64 0, .int .u64 0, .int .u64 0, .int .u64 0, .int .u64 0, .int .u64 0, .int .u64 0, .int .u64 0, .int .u64 0, .int .u64 0, .int .u64 0, .int .u64 0, .int .u64 0, .int .u64 0, .int .u64 0, .int .u64 0, .int .u64 0, .int .u64 0, .int .u64 0, .int .u64 0, .int .u64 0, .int .u64 0, .int .u64 0, .int .u64 0, .int .u64 0, .int .u64 0, .int .u64 0, .int .u64 0] 29))
  have X2_69 := Aside0.mk (blk_alloc X2_63.out (.cells #[.int .i64 0, .int .u64 0, .int .u64 0, .int .u64 0, .int .u64 0, .int .u64 0, .int .u64 0, .int .u64 0, .int .u64 0, .int .u64 0, .int .u64 0, .int .u64 0, .int .u64 0, .int .u64 0, .int .u64 0, .int .u64 0, .int .u64 0, .int .u64 0, .int .u64 0, .int .u64 0, .int .u64 0, .int .u64 0, .int .u64 0, .int .u64 0, .int .u64 0, .int .u64 0, .int .u64 0, .int .u64 0, .int .u64 0, .int .u64 0, .int .u64 0, .int .u64 0, .int .u64 0] 29))
  have X4_70 := Aside0.mk (blk_alloc X4_64.out (.cells #[.int .i64 0, .int .u64 0, .int .u64 0, .int .u64 0, .int .u64 0, .int .u64 0, .int .u64 0, .int .u64 0, .int .u64 0, .int .u64 0, .int .u64 0, .int .u64 0, .int .u64 0, .int .u64 0, .int .u64 0, .int .u64 0, .int .u64 0, .int .u64 0, .int .u64 0, .int .u64 0, .int .u64 0, .int .u64 0, .int .u64 0, .int .u64 0, .int .u64 0, .int .u64 0, .int .u64 0, .int .u64 0, .int .u64 0, .int .u64 0, .int .u64 0, .int .u64 0, .int .u64 0] 29))
  have X5_71 := Aside0.mk (blk_alloc X5_65.out (.cells #[.int .i64 0, .int .u64 0, .int .u64 0, .int .u64 0, .int .u64 0, .int .u64 0, .int .u64 0, .int .u64 0, .int .u64 0, .int .u64 0, .int .u64 0, .int .u64 0, .int .u64 0, .int .u64 0, .int .u64 0, .int .u64 0, .int .u64 0, .int .u64 0, .int .u64 0, .int .u64 0, .int .u64 0, .int .u64 0, .int .u64 0, .int .u64 0, .int .u64 0, .int .u64 0, .int .u64 0, .int .u64 0, .int .u64 0, .int .u64 0, .int .u64 0, .int .u64 0, .int .u64 0] 29))
  have X9_72 := Aside0.mk (blk_alloc X9_66.out (.cells #[.int .i64 0, .int .u64 0, .int .u64 0, .int .u64 0, .int .u64 0, .int .u64 0, .int .u64 0, .int .u64 0, .int .u64 0, .int .u64 0, .int .u64 0, .int .u64 0, .int .u64 0, .int .u64 0, .int .u64 0, .int .u64 0, .int .u64 0, .int .u64 0, .int .u64 0, .int .u64 0, .int .u64 0, .int .u64 0, .int .u64 0, .int .u64 0, .int .u64 0, .int .u64 0, .int .u64 0, .int .u64 0, .int .u64 0, .int .u64 0, .int .u64 0, .int .u64 0, .int .u64 0] 29))
  have X11_73 := Aside0.mk (blk_new w6 (.cells #[.int .i64 0, .int .u64 0, .int .u64 0, .int .u64 0, .int .u64 0, .int .u64 0, .int .u64 0, .int .u64 0, .int .u64 0, .int .u64 0, .int .u64 0, .int .u64 0, .int .u64 0, .int .u64 0, .int .u64 0, .int .u64 0, .int .u64 0, .int .u64 0, .int .u64 0, .int .u64 0, .int .u64 0, .int .u64 0, .int .u64 0, .int .u64 0, .int .u64 0, .int .u64 0, .int .u64 0, .int .u64 0, .int .u64 0, .int .u64 0, .int .u64 0, .int .u64 0, .int .u64 0] 29))
  have B74 := Aside0.mk (below_alloc B67.out (.cells #[.int .i64 0, .int .u64 0, .int .u64 0, .int .u64 0, .int .u64 0, .int .u64 0, .int .u64 0, .int .u64 0, .int .u64 0, .int .u64 0, .int .u64 0, .int .u64 0, .int .u64 0, .int .u64 0, .int .u64 0, .int .u64 0, .int .u64 0, .int .u64 0, .int .u64 0, .int .u64 0, .int .u64 0, .int .u64 0, .int .u64 0, .int .u64 0, .int .u64 0, .int .u64 0, .int .u64 0, .int .u64 0, .int .u64 0, .int .u64 0, .int .u64 0, .int .u64 0, .int .u64 0] 29))
  clear X1_62 X2_63 X4_64 X5_65 X9_66 B67
  go_wp2_with (first
    | (refine store_whole (w := w) (B := w.heap.size) rfl rfl 29 (.tmp 11) (.tmp 45) rfl (g := w6.heap.size) (cs := SV []) rfl _ rfl rfl (stot _) (SV_one _) X11_73.out (by first | (rw [SV_size]; done) | (rw [SV_size, SV_size]; done) | (rw [SV_size]; rfl)) L_X11.out B74.out ?_; intro w_75 h1 h2 h3 h4; have X1_76 := Aside0.mk ((h3 _ NE_X1_X11.out).trans X1_68.out); have X2_77 := Aside0.mk ((h3 _ NE_X2_X11.out).trans X2_69.out); have X4_78 := Aside0.mk ((h3 _ NE_X4_X11.out).trans X4_70.out); have X5_79 := Aside0.mk ((h3 _ NE_X5_X11.out).trans X5_71.out); have X9_80 := Aside0.mk ((h3 _ NE_X9_X11.out).trans X9_72.out); have X11_81 := Aside0.mk (h1); have B82 := Aside0.mk (h2); clear h1 h2 h3 h4 X1_68 X2_69 X4_70 X5_71 X9_72 X11_73 B74)
    | (refine wpList_load_row_g (by rfl) 35 (.tmp 2) rfl (w2.heap.size) rfl 35 (#[.int .i64 0, .bool false, .int .u64 0]) (0, 0) _ X2_77.out Try.underlying35 rfl (by kernel_rfl) ?_)
    | (refine wpList_load_row_g (by rfl) 35 (.tmp 5) rfl (w3.heap.size + 1) rfl 35 (#[.int .i64 0, .bool false, .int .u64 5]) (0, 0) _ X5_79.out Try.underlying35 rfl (by kernel_rfl) ?_)
    | (refine wpList_load_row_g (by rfl) 29 (.tmp 1) rfl (w.heap.size) rfl 29 (SV s1) (0, 0) _ X1_76.out Try.underlying29 rfl (info29 _) ?_)
    | (refine wpList_load_row_g (by rfl) 29 (.tmp 4) rfl (w3.heap.size) rfl 29 (SV s1) (0, 0) _ X4_78.out Try.underlying29 rfl (info29 _) ?_)
    | (refine wpList_load_row_g (by rfl) 29 (.tmp 9) rfl (w5.heap.size) rfl 29 (SV s1) (0, 0) _ X9_80.out Try.underlying29 rfl (info29 _) ?_)
    | (refine wpList_value_g (by rfl) (exec_eq29s (.tmp 71) (.tmp 72) rfl s1 rfl rfl s1_le) ?_)
    | (refine wpList_value_g (by rfl) (exec_eq29s (.tmp 79) (.tmp 80) rfl s1 rfl rfl s1_le) ?_))
  go_ret
  exact ⟨rfl, B82.out⟩
end Go.Proofs.Ytcphmelmieedfab.PSpecExact

