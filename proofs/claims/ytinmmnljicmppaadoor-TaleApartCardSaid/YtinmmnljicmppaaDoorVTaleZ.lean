import Derived.Test.YtinmmnljicmppaaDoorRows
import Derived.Test.YtinmmnljicmppaaDoorVTaleLawA
import Derived.Test.YtinmmnljicmppaaDoorVTaleS
import Derived.Test.YtinmmnljicmppaaDoorVTaleY
import Derived.Test.YtinmmnljicmppaaDoorVTaleW
import Derived.Test.YtinmmnljicmppaaDoorVWords
/-
TaleApart's plain law.
-/
namespace Go.Proofs.YtinmmnljicmppaaDoor.PTaleApart
open Go Go.RowKit Go.Proofs.YtinmmnljicmppaaDoorW.PrintWords Go.Proofs.YtinmmnljicmppaaDoorW.PrintLast Go.Proofs.YtinmmnljicmppaaDoorW.PrintMore Go.Proofs.YtinmmnljicmppaaDoor.Str Go.Proofs.YtinmmnljicmppaaDoor.U
set_option linter.unusedVariables false
set_option linter.unusedSimpArgs false
theorem op_k {a b c d e t k x v l : Int} (ht : I64 t) (hx : U64 x) (hv : U64 v) (hl : I64 l) : tale_Op.f a b c d e t k x v l = some (if CheckV a b c d e = 0 ∧ OpV a d k x v l = 0 ∧ 0 ≤ t ∧ t < 64 then joinB (opL k.toNat t x v l) else ⟨#[]⟩, if CheckV a b c d e = 0 then (if OpV a d k x v l = 0 then (if 0 ≤ t ∧ t < 64 then 0 else 3) else OpV a d k x v l) else CheckV a b c d e) := by
 unfold tale_Op.f
 rw [isOp_f (by decide), bsome]
 unfold I64 at ht hl
 unfold U64 at hx hv
 rw [if_pos ⟨U.wf_i64.2 (by omega), U.wf_u64.2 (by omega), U.wf_u64.2 (by omega), U.wf_i64.2 (by omega), fun h => by
  by_cases hc : CheckV a b c d e = 0
  ·rw [if_pos hc] at h
   obtain ⟨h1, h2, _⟩ := op_zero h
   omega
  ·rw [if_neg hc] at h
   exact absurd h hc⟩]
 by_cases hc : CheckV a b c d e = 0
 ·rw [hc]
  simp only [if_true, true_and]
 ·simp only [hc, if_false, false_and]
theorem readOp_k {k : Nat} (hk : 100 ≤ k) (a b c d e : Int) (line : ByteArray) (hs : line.size ≤ 4000000000) : tale_ReadOp.f k a b c d e line = some (readOpV a b c d e line) := by
 obtain ⟨n, rfl⟩ : ∃ n, k = 100 + n := ⟨k - 100, by omega⟩
 clear hk
 induction n with
 | zero => exact readOp_f a b c d e line hs
 | succ n ih => exact tale_ReadOp.mono _ _ _ _ _ _ _ _ ih
theorem ints_l (l m : List Int) (he : l.length = m.length) (h1 : l.length ≤ 1000) : ∀ (k i : Nat), l.length < i + k → i ≤ l.length → revenantlaw32_ints.l0 k l m (i : Int) = some (decide (l.drop i = m.drop i)) := by
 intro k
 induction k with
 | zero => intro i h h2; omega
 | succ k ih =>
  intro i h h2
  unfold revenantlaw32_ints.l0
  by_cases hi : i < l.length
  ·have hw : wrap64 ((i : Int) + 1) = ((i + 1 : Nat) : Int) := by unfold wrap64; omega
   rw [if_pos (by omega), if_pos (by omega), if_pos (by omega), hw]
   have e1 : rd l (i : Int) = l[i] := by unfold rd; simp [hi]
   have e2 : rd m (i : Int) = m[i]'(by omega) := by unfold rd; simp [show i < m.length by omega]
   rw [e1, e2, List.drop_eq_getElem_cons hi, List.drop_eq_getElem_cons (show i < m.length by omega)]
   by_cases hx : l[i] = m[i]'(by omega)
   ·rw [if_pos hx, ih (i + 1) (by omega) (by omega)]
    refine congrArg some (decide_eq_decide.mpr ?_)
    rw [hx]
    exact ⟨fun h => by rw [h], fun h => (List.cons.inj h).2⟩
   ·rw [if_neg hx, decide_eq_false (fun h => hx (List.cons.inj h).1)]
  ·rw [if_neg (by omega), List.drop_eq_nil_of_le (by omega), List.drop_eq_nil_of_le (by omega)]
   simp
theorem ints_f {k : Nat} (l m : List Int) (h1 : l.length ≤ 200) (hk : 201 ≤ k) : revenantlaw32_ints.f k l m = some (decide (l = m)) := by
 unfold revenantlaw32_ints.f
 by_cases he : l.length = m.length
 ·rw [if_pos (by omega)]
  have := ints_l l m he (by omega) k 0 (by omega) (by omega)
  exact this
 ·rw [if_neg (by omega), decide_eq_false (fun h => he (by rw [h]))]
theorem size_mk (l : List UInt8) : (⟨l.toArray⟩ : ByteArray).size = l.length := by
 show l.toArray.size = _
 simp
theorem apart_j4 {k : Nat} (hk : 50 ≤ k) (u : ByteArray) (ui : Int) (hu : ui = 0 → ∃ l, u = ⟨(picksLine l).toArray⟩ ∧ (picksLine l).length ≤ 20000000) : revenantlaw32_TaleApart.j4 (k + 1) u ui = some true := by
 simp only [revenantlaw32_TaleApart.j4]
 by_cases h : ui = 0
 ·obtain ⟨l, rfl, hl⟩ := hu h
  rw [if_pos h, readConf_f _ (by rw [size_mk]; omega) hk, bsome]
  show (if (readConfV ⟨(picksLine l).toArray⟩).2 = 0 then some false else some true) = some true
  rw [readConf_picks, if_neg (by decide)]
 ·rw [if_neg h]
theorem apart_j3 {k : Nat} (hk : 101 ≤ k) {a b c d e : Int} (x : ByteArray) (xi : Int) (hx : xi = 0 → CheckV a b c d e = 0 ∧ x = joinB (confL a.toNat b c d e)) (u : ByteArray) (ui : Int) (hu : ui = 0 → ∃ l, u = ⟨(picksLine l).toArray⟩ ∧ (picksLine l).length ≤ 20000000) : revenantlaw32_TaleApart.j3 (k + 1) x xi u ui false a b c d e = some true := by
 simp only [revenantlaw32_TaleApart.j3]
 rw [if_neg Bool.false_ne_true]
 obtain ⟨n, rfl⟩ : ∃ n, k = n + 1 := ⟨k - 1, by omega⟩
 have h4 := apart_j4 (k := n) (by omega) u ui hu
 by_cases h : xi = 0
 ·obtain ⟨hc, rfl⟩ := hx h
  have hb := confL_bound hc
  rw [if_pos h, readOp_k (by omega) a b c d e _ (by
   have : (joinB (confL a.toNat b c d e)).size = (joinB (confL a.toNat b c d e)).data.toList.length := by
    show (joinB (confL a.toNat b c d e)).data.size = _
    simp
   omega), bsome]
  rw [readOp_conf hc, if_neg (by decide), h4]
 ·rw [if_neg h, h4]
theorem bne_no {p q : Bool} (h : p = q) : (p != q) = false := by rw [h]; cases q <;> rfl
theorem apart_j2 {k : Nat} (hk : 210 ≤ k) {a b c d e : Int} (l m : List Int) (hl : l.length ≤ 200) (hm : m.length ≤ 200) (x : ByteArray) (xi : Int) (hx : xi = 0 → CheckV a b c d e = 0 ∧ x = joinB (confL a.toNat b c d e)) : revenantlaw32_TaleApart.j2 (k + 1) l m x xi false a b c d e = some true := by
 simp only [revenantlaw32_TaleApart.j2]
 rw [if_neg Bool.false_ne_true]
 obtain ⟨n, rfl⟩ : ∃ n, k = n + 1 := ⟨k - 1, by omega⟩
 have pz : ∀ z : List Int, z.length ≤ 200 → (picksV z).2 = 0 → (∀ y ∈ z, 0 ≤ y ∧ y < 64) ∧ (picksV z).1 = ⟨(picksLine z).toArray⟩ := fun z hz h => by
  unfold picksV at h ⊢
  by_cases h0 : 0 ≤ idxN 64 z 0
  ·rw [if_pos h0] at h
   exact absurd h (by decide)
  ·rw [if_neg h0, if_neg (by omega)]
   exact ⟨idxN_none z 0 (Int.le_refl 0) h0, rfl⟩
 have j3 := fun (u : ByteArray) (ui : Int) hu => apart_j3 (k := n) (by omega) (a := a) (b := b) (c := c) (d := d) (e := e) x xi hx u ui hu
 have hu : (picksV l).2 = 0 → ∃ z, (picksV l).1 = ⟨(picksLine z).toArray⟩ ∧ (picksLine z).length ≤ 20000000 := fun h => ⟨l, (pz l hl h).2, picks_bound l (by omega) (pz l hl h).1⟩
 unfold tale_Picks.f
 rw [bsome, bsome]
 by_cases h1 : (picksV l).2 = 0
 ·rw [if_pos h1]
  by_cases h2 : (picksV m).2 = 0
  ·rw [if_pos h2, ints_f l m hl (by omega), bsome]
   have hB : ((picksV l).1.toList == (picksV m).1.toList) = decide (l = m) := by
    rw [Bool.eq_iff_iff]
    simp only [beq_iff_eq, decide_eq_true_eq]
    constructor
    ·intro h
     have h := toList_inj h
     rw [(pz l hl h1).2, (pz m hm h2).2] at h
     refine picks_apart (pz l hl h1).1 (pz m hm h2).1 (by omega) (by omega) ?_
     have h := congrArg (fun z : ByteArray => z.data.toList) h
     simpa using h
    ·rintro rfl; rfl
   rw [bne_no hB]
   exact j3 _ _ hu
  ·rw [if_neg h2]
   exact j3 _ _ hu
 ·rw [if_neg h1]
  exact j3 _ _ hu
theorem apart_j1 {k : Nat} (hk : 211 ≤ k) {a b c d e : Int} (l m : List Int) (hl : l.length ≤ 200) (hm : m.length ≤ 200) (x : ByteArray) (xi : Int) (hx : xi = 0 → CheckV a b c d e = 0 ∧ x = joinB (confL a.toNat b c d e)) {o1 o2 o3 o4 p1 p2 p3 p4 : Int} (g2 : U64 o2) (g3 : U64 o3) (g4 : I64 o4) (q2 : U64 p2) (q3 : U64 p3) (q4 : I64 p4) : revenantlaw32_TaleApart.j1 (k + 1) l m x xi false a b c d e o1 o2 o3 o4 p1 p2 p3 p4 = some true := by
 simp only [revenantlaw32_TaleApart.j1]
 rw [if_neg Bool.false_ne_true]
 obtain ⟨n, rfl⟩ : ∃ n, k = n + 1 := ⟨k - 1, by omega⟩
 have j2 := apart_j2 (k := n) (by omega) (a := a) (b := b) (c := c) (d := d) (e := e) l m hl hm x xi hx
 rw [op_k ⟨by omega, by omega⟩ g2 g3 g4, bsome, op_k ⟨by omega, by omega⟩ q2 q3 q4, bsome]
 by_cases hc : CheckV a b c d e = 0
 ·have hd : d ≤ 16 := by
   obtain ⟨_, _, _, _, _, _, _, h7, h8⟩ := check_zero hc
   by_cases h3 : a = 3
   ·exact (h7 h3).2
   ·have := h8 h3; omega
  have h16 : (0 : Int) ≤ 1 ∧ (1 : Int) < 64 := ⟨by omega, by omega⟩
  by_cases h1 : OpV a d o1 o2 o3 o4 = 0
  ·by_cases h2 : OpV a d p1 p2 p3 p4 = 0
   ·simp only [hc, h1, h2, h16, and_self, if_true, true_and]
    have hB : ((joinB (opL o1.toNat 1 o2 o3 o4)).toList == (joinB (opL p1.toNat 1 p2 p3 p4)).toList) = (o1 == p1 && (o2 == p2 && (o3 == p3 && (o4 == p4)))) := by
     rw [Bool.eq_iff_iff]
     simp only [beq_iff_eq, Bool.and_eq_true]
     constructor
     ·intro h
      exact op_apart hd (by omega) g2 g3 q2 q3 h1 h2 (toList_inj h)
     ·rintro ⟨rfl, rfl, rfl, rfl⟩; rfl
    rw [bne_no hB]
    exact j2
   ·simp only [hc, h1, h2, h16, and_self, if_true, if_false, true_and]
    exact j2
  ·simp only [hc, h1, if_true, if_false]
   exact j2
 ·simp only [hc, if_false]
  exact j2
theorem apart_j0 {k : Nat} (hk : 212 ≤ k) (l m : List Int) (hl : l.length ≤ 200) (hm : m.length ≤ 200) {a b c d e a' b' c' d' e' : Int} (g1 : I64 b ∧ I64 c ∧ I64 d ∧ I64 e) (q1 : I64 b' ∧ I64 c' ∧ I64 d' ∧ I64 e') {o1 o2 o3 o4 p1 p2 p3 p4 : Int} (g2 : U64 o2) (g3 : U64 o3) (g4 : I64 o4) (q2 : U64 p2) (q3 : U64 p3) (q4 : I64 p4) : revenantlaw32_TaleApart.j0 (k + 1) l m false a b c d e a' b' c' d' e' o1 o2 o3 o4 p1 p2 p3 p4 = some true := by
 simp only [revenantlaw32_TaleApart.j0]
 rw [if_neg Bool.false_ne_true]
 obtain ⟨n, rfl⟩ : ∃ n, k = n + 1 := ⟨k - 1, by omega⟩
 have j1 := fun (x : ByteArray) (xi : Int) hx => apart_j1 (k := n) (by omega) (a := a) (b := b) (c := c) (d := d) (e := e) l m hl hm x xi hx (o1 := o1) (p1 := p1) g2 g3 g4 q2 q3 q4
 rw [conf_f g1.1 g1.2.1 g1.2.2.1 g1.2.2.2, bsome, conf_f q1.1 q1.2.1 q1.2.2.1 q1.2.2.2, bsome]
 by_cases hc : CheckV a b c d e = 0
 ·have j1' := j1 (joinB (confL a.toNat b c d e)) 0 (fun _ => ⟨hc, rfl⟩)
  by_cases hd : CheckV a' b' c' d' e' = 0
  ·simp only [hc, hd, if_true]
   have hB : ((joinB (confL a.toNat b c d e)).toList == (joinB (confL a'.toNat b' c' d' e')).toList) = (a == a' && (b == b' && (c == c' && (d == d' && (e == e'))))) := by
    rw [Bool.eq_iff_iff]
    simp only [beq_iff_eq, Bool.and_eq_true]
    constructor
    ·intro h
     exact conf_apart hc hd (toList_inj h)
    ·rintro ⟨rfl, rfl, rfl, rfl, rfl⟩; rfl
   rw [bne_no hB]
   exact j1'
  ·simp only [hc, hd, if_true, if_false]
   exact j1'
 ·simp only [hc, if_false]
  exact j1 _ _ (fun h => absurd h hc)
theorem apart_pure {k : Nat} (hk : 213 ≤ k) (l m : List Int) {a b c d e a' b' c' d' e' : Int} (g1 : I64 b ∧ I64 c ∧ I64 d ∧ I64 e) (q1 : I64 b' ∧ I64 c' ∧ I64 d' ∧ I64 e') {o1 o2 o3 o4 p1 p2 p3 p4 : Int} (g2 : U64 o2) (g3 : U64 o3) (g4 : I64 o4) (q2 : U64 p2) (q3 : U64 p3) (q4 : I64 p4) : revenantlaw32_TaleApart.f k a b c d e a' b' c' d' e' o1 o2 o3 o4 p1 p2 p3 p4 l m = some true := by
 obtain ⟨n, rfl⟩ : ∃ n, k = n + 1 := ⟨k - 1, by omega⟩
 have ht : revenantlaw32_TaleApart.j0 (n + 1) l m true a b c d e a' b' c' d' e' o1 o2 o3 o4 p1 p2 p3 p4 = some true := by
  simp only [revenantlaw32_TaleApart.j0]
  rw [if_pos trivial]
 unfold revenantlaw32_TaleApart.f revenantlaw32_awake.f
 rw [bsome, if_pos rfl]
 by_cases hl : (l.length : Int) > 200
 ·rw [if_pos hl]
  exact ht
 ·rw [if_neg hl]
  by_cases hm : (m.length : Int) > 200
  ·rw [decide_eq_true hm]
   exact ht
  ·rw [decide_eq_false hm]
   exact apart_j0 (by omega) l m (by omega) (by omega) g1 q1 g2 g3 g4 q2 q3 q4
end Go.Proofs.YtinmmnljicmppaaDoor.PTaleApart
namespace Go.Proofs.YtinmmnljicmppaaDoor.PTaleApart
open Go Go.RowKit Go.Proofs.YtinmmnljicmppaaDoorW.PrintWords Go.Proofs.YtinmmnljicmppaaDoorW.PrintLast Go.Proofs.YtinmmnljicmppaaDoorW.PrintMore Go.Proofs.YtinmmnljicmppaaDoor.Str Go.Proofs.YtinmmnljicmppaaDoor.U
set_option linter.unusedVariables false
set_option linter.unusedSimpArgs false
theorem apart_law {P4 P5 : Prop} (a0 a1 a2 a3 a4 b0 b1 b2 b3 b4 o0 o1 o2 o3 p0 p1 p2 p3 : Int) (l4 l5 : List Int)
  (ga : (Lit.int .i64 a0).wf = true ∧ (Lit.int .i64 a1).wf = true ∧ (Lit.int .i64 a2).wf = true ∧ (Lit.int .i64 a3).wf = true ∧ (Lit.int .i64 a4).wf = true)
  (gb : (Lit.int .i64 b0).wf = true ∧ (Lit.int .i64 b1).wf = true ∧ (Lit.int .i64 b2).wf = true ∧ (Lit.int .i64 b3).wf = true ∧ (Lit.int .i64 b4).wf = true)
  (go : (Lit.int .i64 o0).wf = true ∧ (Lit.int .u64 o1).wf = true ∧ (Lit.int .u64 o2).wf = true ∧ (Lit.int .i64 o3).wf = true)
  (gp : (Lit.int .i64 p0).wf = true ∧ (Lit.int .u64 p1).wf = true ∧ (Lit.int .u64 p2).wf = true ∧ (Lit.int .i64 p3).wf = true) (_ : P4) (_ : P5) :
  revenantlaw32_TaleApart.f 1000 a0 a1 a2 a3 a4 b0 b1 b2 b3 b4 o0 o1 o2 o3 p0 p1 p2 p3 l4 l5 = some true :=
 apart_pure (by omega) l4 l5 ⟨wf_i64b ga.2.1, wf_i64b ga.2.2.1, wf_i64b ga.2.2.2.1, wf_i64b ga.2.2.2.2⟩ ⟨wf_i64b gb.2.1, wf_i64b gb.2.2.1, wf_i64b gb.2.2.2.1, wf_i64b gb.2.2.2.2⟩ (wf_u64b go.2.1) (wf_u64b go.2.2.1) (wf_i64b go.2.2.2) (wf_u64b gp.2.1) (wf_u64b gp.2.2.1) (wf_i64b gp.2.2.2)
theorem apart_calls (a0_0 : Int) (a0_1 : Int) (a0_2 : Int) (a0_3 : Int) (a0_4 : Int) (a1_0 : Int) (a1_1 : Int) (a1_2 : Int) (a1_3 : Int) (a1_4 : Int) (a2_0 : Int) (a2_1 : Int) (a2_2 : Int) (a2_3 : Int) (a3_0 : Int) (a3_1 : Int) (a3_2 : Int) (a3_3 : Int) (A4 : Option Addr) (c4 : Nat) (l4 : List Int) (A5 : Option Addr) (c5 : Nat) (l5 : List Int) (r : Bool) (w : World) (hr4 : Kd.C (Kd.int .i64) w A4 l4.length l4) (hc4 : l4.length ≤ c4) (hr5 : Kd.C (Kd.int .i64) w A5 l5.length l5) (hc5 : l5.length ≤ c5) (h : revenantlaw32_TaleApart.f 1000 a0_0 a0_1 a0_2 a0_3 a0_4 a1_0 a1_1 a1_2 a1_3 a1_4 a2_0 a2_1 a2_2 a2_3 a3_0 a3_1 a3_2 a3_3 l4 l5 = some r) (ht : WT w) :
  Calls Tryd.prog 4 #[.agg #[.int .i64 a0_0, .int .i64 a0_1, .int .i64 a0_2, .int .i64 a0_3, .int .i64 a0_4], .agg #[.int .i64 a1_0, .int .i64 a1_1, .int .i64 a1_2, .int .i64 a1_3, .int .i64 a1_4], .agg #[.int .i64 a2_0, .int .u64 a2_1, .int .u64 a2_2, .int .i64 a2_3], .agg #[.int .i64 a3_0, .int .u64 a3_1, .int .u64 a3_2, .int .i64 a3_3], .slice A4 l4.length c4, .slice A5 l5.length c5] w fun e w' => e = .returned (.bool r) ∧ Below w.heap.size w w' :=
 revenantlaw32_TaleApart.calls 1000 a0_0 a0_1 a0_2 a0_3 a0_4 a1_0 a1_1 a1_2 a1_3 a1_4 a2_0 a2_1 a2_2 a2_3 a3_0 a3_1 a3_2 a3_3 A4 c4 l4 A5 c5 l5 r w hr4 hc4 hr5 hc5 h ht (Below.refl _ _)
end Go.Proofs.YtinmmnljicmppaaDoor.PTaleApart
