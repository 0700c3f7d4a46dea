/-
Of every two fields and every word: what was put is got, and no other bit is changed. No condition beyond the row's own.
-/
import Derived.Test.YtmdncdepdnpjiaaPFieldBackx3
import Derived.Test.YtmdncdepdnpjiaaWords
namespace Go.Proofs.Ytmdncdepdnpjiaa.PFieldBack
open Go Go.RowKit Go.Proofs.YtmdncdepdnpjiaaW.PrintWords Go.Proofs.YtmdncdepdnpjiaaW.PrintLast Go.Proofs.YtmdncdepdnpjiaaW.PrintMore Go.Proofs.Ytmdncdepdnpjiaa.U
set_option linter.unusedVariables false

/-- A field that can be. -/
def IsF (a n : Int) : Prop := 0 ≤ a ∧ 1 ≤ n ∧ n ≤ 64 ∧ a ≤ 64 - n
instance (a n : Int) : Decidable (IsF a n) := by unfold IsF; exact inferInstance
theorem is_f (a n : Int) : field_Field_Is.f a n = some (decide (IsF a n)) := by
  unfold field_Field_Is.f IsF
  by_cases h1 : 0 ≤ a
  · by_cases h2 : 1 ≤ n
    · by_cases h3 : n ≤ 64
      · rw [if_pos h1, if_pos h2, if_pos h3, w64 (by omega) (by omega)]
        simp [h1, h2, h3]
      · rw [if_pos h1, if_pos h2, if_neg h3]
        simp [h3]
    · rw [if_pos h1, if_neg h2]
      simp [h2]
  · rw [if_neg h1]
    simp [h1]
theorem is_yes {a n : Int} (h : IsF a n) : field_Field_Is.f a n = some true := by rw [is_f, decide_eq_true h]
theorem is_no {a n : Int} (h : ¬ IsF a n) : field_Field_Is.f a n = some false := by rw [is_f, decide_eq_false h]
theorem wrapU_small {x : Int} (h0 : 0 ≤ x) (h1 : x < 18446744073709551616) : IntKind.u64.wrap x = x := by rw [wrapU_mod]; omega
theorem max_yes {a n : Int} (h : IsF a n) : field_Field_Max.f a n = some (I (mask n.toNat)) := by
  have h' := h
  obtain ⟨h1, h2, h3, h4⟩ := h
  unfold field_Field_Max.f
  rw [is_yes h']
  simp only [Option.bind_some, if_true]
  rw [w64 (by omega) (by omega), wrapU_small (by omega) (by omega), if_pos (by omega), shrU (by omega) (by omega)]
  congr 2
  unfold mask
  have e : B 18446744073709551615 = BitVec.allOnes 64 := by decide
  rw [e]
  congr 1
  omega
theorem max_no {a n : Int} (h : ¬ IsF a n) : field_Field_Max.f a n = some 0 := by
  unfold field_Field_Max.f
  rw [is_no h]
  rfl
theorem get_yes {a n w : Int} (h : IsF a n) (w0 : 0 ≤ w) (w1 : w < 18446744073709551616) : field_Field_Get.f a n w = some (I (getB a.toNat n.toNat (B w))) := by
  have h' := h
  obtain ⟨h1, h2, h3, h4⟩ := h
  unfold field_Field_Get.f
  rw [is_yes h', max_yes h']
  simp only [Option.bind_some, if_true]
  rw [wrapU_small (by omega) (by omega), if_pos h1, shrU w0 w1, bitsU_and, B_I, B_I]
  rfl
theorem get_no {a n w : Int} (h : ¬ IsF a n) : field_Field_Get.f a n w = some 0 := by
  unfold field_Field_Get.f
  rw [is_no h]
  rfl
theorem put_yes {a n w x : Int} (h : IsF a n) (hx : x ≤ I (mask n.toNat)) : field_Field_Put.f a n w x = some (I (putB a.toNat n.toNat (B w) (B x)), true) := by
  have h' := h
  obtain ⟨h1, h2, h3, h4⟩ := h
  unfold field_Field_Put.f
  rw [is_yes h', max_yes h']
  simp only [Option.bind_some, if_true]
  rw [if_neg (by omega), wrapU_small (by omega) (by omega), if_pos h1, shlU, shlU, bitsU_andNot, bitsU_or, B_I, B_I, B_I, B_I]
  rfl
theorem put_great {a n w x : Int} (h : IsF a n) (hx : ¬ x ≤ I (mask n.toNat)) : field_Field_Put.f a n w x = some (0, false) := by
  unfold field_Field_Put.f
  rw [is_yes h, max_yes h]
  simp only [Option.bind_some, if_true]
  rw [if_pos (by omega)]
theorem put_no {a n w x : Int} (h : ¬ IsF a n) : field_Field_Put.f a n w x = some (0, false) := by
  unfold field_Field_Put.f
  rw [is_no h]
  rfl
theorem turn_f {w n : Int} (w0 : 0 ≤ w) (w1 : w < 18446744073709551616) : field_Turn.f w n = some (I (turnB (n % 64).toNat (B w))) := by
  have e : Int.tmod (IntKind.u64.wrap n) 64 = n % 64 := by
    rw [wrapU_mod, Int.tmod_eq_emod_of_nonneg (by omega)]
    omega
  unfold field_Turn.f
  rw [e, if_pos (by omega), wrapU_small (by omega) (by omega), if_pos (by omega), shlU, shrU w0 w1, bitsU_or, B_I, B_I]
  congr 2
  unfold turnB
  congr 2
  omega
theorem int_f {w : Int} (w0 : 0 ≤ w) (w1 : w < 18446744073709551616) : field_Int.f w = some (if w < 9223372036854775808 then (w, true) else (0, false)) := by
  unfold field_Int.f
  by_cases h : w < 9223372036854775808
  · rw [w64 (by omega) (by omega), if_neg (by omega), if_pos h]
  · rw [if_pos (by unfold wrap64; omega), if_neg h]
theorem awake_f : revenantlaw01_awake.f = some true := by decide +kernel
end Go.Proofs.Ytmdncdepdnpjiaa.PFieldBack
namespace Go.Proofs.Ytmdncdepdnpjiaa.PFieldBack
open Go Go.RowKit Go.Proofs.YtmdncdepdnpjiaaW.PrintWords Go.Proofs.YtmdncdepdnpjiaaW.PrintLast Go.Proofs.YtmdncdepdnpjiaaW.PrintMore Go.Proofs.Ytmdncdepdnpjiaa.U
set_option linter.unusedVariables false
/-- A field's bits. -/
def bitsOf (f : S23) : BitVec 64 := mask f.f1.toNat <<< f.f0.toNat
/-- Whether fields are apart, behind used bits. -/
def apartL : BitVec 64 → List S23 → Bool
  | _, [] => true
  | u, f :: fs => if IsF f.f0 f.f1 ∧ u &&& bitsOf f = 0#64 then apartL (u ||| bitsOf f) fs else false
theorem and63 {x : Int} (h0 : 0 ≤ x) (h1 : x < 64) : bits .and .i64 x 63 = x := by
  have h := bits_mask .i64 63 (by decide) (fun n h0 h1 => by rw [IntKind.wrap_i64]; omega) 6 (by decide) x h0 (by omega)
  have e : (2 : Int) ^ 6 - 1 = 63 := by decide
  rw [e] at h
  rw [h]
  have e2 : (2 : Int) ^ 6 = 64 := by decide
  rw [e2]
  omega
theorem drop_rd (xs : List S23) (i : Int) (h0 : 0 ≤ i) (h1 : i < xs.length) : xs.drop i.toNat = rd_T23 xs i :: xs.drop (i + 1).toNat := by
  have h : i.toNat < xs.length := by omega
  rw [List.drop_eq_getElem_cons h]
  congr 1
  · simp [rd_T23, h]
  · congr 1; omega
theorem apart_l (xs : List S23) (hx : xs.length ≤ 9223372036854775807) (d : Nat) : ∀ (k : Nat) (u : BitVec 64) (i : Int), 0 ≤ i → i ≤ xs.length → (xs.length : Int) - i = d → d < k →
    field_Apart.l0 k (I u) xs (xs.length : Int) i = some (apartL u (xs.drop i.toNat)) := by
  induction d with
  | zero =>
    intro k u i h0 h1 hd hk
    obtain ⟨k, rfl⟩ : ∃ m, k = m + 1 := ⟨k - 1, by omega⟩
    simp only [field_Apart.l0]
    rw [if_neg (by omega), List.drop_of_length_le (by omega)]
    rfl
  | succ d ih =>
    intro k u i h0 h1 hd hk
    obtain ⟨k, rfl⟩ : ∃ m, k = m + 1 := ⟨k - 1, by omega⟩
    simp only [field_Apart.l0]
    rw [if_pos (by omega), if_pos h0, if_pos (by omega), drop_rd xs i h0 (by omega)]
    generalize rd_T23 xs i = f
    have hw : 0 ≤ IntKind.u64.wrap (bits .and .i64 f.f0 63) := by rw [wrapU_mod]; omega
    unfold apartL
    by_cases hf : IsF f.f0 f.f1
    · obtain ⟨g1, g2, g3, g4⟩ := hf
      have hf : IsF f.f0 f.f1 := ⟨g1, g2, g3, g4⟩
      rw [max_yes hf, is_yes hf]
      simp only [Option.bind_some, if_true]
      rw [if_pos hw, and63 g1 (by omega), wrapU_small g1 (by omega), shlU, B_I, bitsU_and, bitsU_or, B_I, B_I]
      have e0 : (I (u &&& mask f.f1.toNat <<< f.f0.toNat) = 0) ↔ (u &&& bitsOf f = 0#64) := by
        rw [show (0 : Int) = I 0#64 from rfl, I_inj]
        rfl
      by_cases hz : u &&& bitsOf f = 0#64
      · rw [if_pos (e0.2 hz), if_pos ⟨hf, hz⟩, w64 (by omega) (by omega)]
        exact ih k _ (i + 1) (by omega) (by omega) (by omega) (by omega)
      · rw [if_neg (fun h => hz (e0.1 h)), if_neg (fun h => hz h.2)]
    · rw [max_no hf, is_no hf]
      simp only [Option.bind_some, Bool.false_eq_true, if_false]
      rw [if_pos hw, if_neg (fun h => hf h.1)]
theorem apart_f (xs : List S23) (hx : xs.length ≤ 9223372036854775807) {k : Nat} (hk : xs.length < k) : field_Apart.f k xs = some (apartL 0#64 xs) := by
  unfold field_Apart.f
  exact apart_l xs hx xs.length k 0#64 0 (by omega) (by omega) (by omega) hk
end Go.Proofs.Ytmdncdepdnpjiaa.PFieldBack
namespace Go.Proofs.Ytmdncdepdnpjiaa.Pure
open Go Go.RowKit Go.Proofs.Ytmdncdepdnpjiaa.PFieldBack Go.Proofs.YtmdncdepdnpjiaaW.PrintWords Go.Proofs.YtmdncdepdnpjiaaW.PrintLast Go.Proofs.Ytmdncdepdnpjiaa.U
theorem FieldBack (a n b m w x y : Int) (hw : (Lit.int .u64 w).wf = true) : revenantlaw01_FieldBack.f 9 a n b m w x y = some true := by
  rw [wf_u64] at hw
  obtain ⟨w0, w1⟩ := hw
  unfold revenantlaw01_FieldBack.f
  rw [awake_f]
  simp only [Option.bind_some, if_true]
  by_cases hf : IsF a n
  · rw [is_yes hf]
    simp only [Option.bind_some, if_true]
    by_cases hg : IsF b m
    · rw [is_yes hg]
      simp only [Option.bind_some, Bool.not_true]
      have hf' := hf
      have hg' := hg
      obtain ⟨f1, f2, f3, f4⟩ := hf'
      obtain ⟨g1, g2, g3, g4⟩ := hg'
      have ha : a.toNat + n.toNat ≤ 64 := by omega
      have hb : b.toNat + m.toNat ≤ 64 := by omega
      have hn : n.toNat ≤ 64 := by omega
      have hm : m.toNat ≤ 64 := by omega
      have Hx : Fits n.toNat (B x &&& mask n.toNat) := fits_and hn _
      have Hy : Fits m.toNat (B y &&& mask m.toNat) := fits_and hm _
      have hx := le_of_fits hn Hx
      have hy := le_of_fits hm Hy
      have Hgw := fits_get (a := a.toNat) hn (B w)
      have hgw := le_of_fits hn Hgw
      generalize hX : B x &&& mask n.toNat = X at *
      generalize hY : B y &&& mask m.toNat = Y at *
      have LX : I X ≤ I (mask n.toNat) := by unfold I; omega
      have LY : I Y ≤ I (mask m.toNat) := by unfold I; omega
      have LG : I (getB a.toNat n.toNat (B w)) ≤ I (mask n.toNat) := by unfold I; omega
      have r : ∀ v : BitVec 64, 0 ≤ I v ∧ I v < 18446744073709551616 := fun v => ⟨I_nonneg v, I_lt v⟩
      have j0 : revenantlaw01_FieldBack.j0 9 w x y false a n b m = some true := by
        simp only [revenantlaw01_FieldBack.j0, Bool.false_eq_true, if_false]
        rw [max_yes hf]
        simp only [Option.bind_some]
        rw [bitsU_and, B_I, hX, put_yes hf LX]
        simp only [Option.bind_some, if_true]
        rw [get_yes hf (r _).1 (r _).2, get_yes hf w0 w1, B_I, B_I, get_put ha Hx]
        simp only [Option.bind_some, if_true]
        rw [decide_eq_false (by omega)]
        simp only [revenantlaw01_FieldBack.j1, Bool.false_eq_true, if_false]
        rw [put_yes hf LX, get_yes hf w0 w1]
        simp only [Option.bind_some]
        rw [put_yes hf LG]
        simp only [B_I]
        rw [put_put ha Hx Hx, put_get ha (B w) (fun i hi h => put_out ha Hx i hi h)]
        simp only [Option.bind_some, if_true]
        have ew : I (B w) = w := I_B_of w0 w1
        rw [ew, bne_self_eq_false]
        simp only [revenantlaw01_FieldBack.j2, Bool.false_eq_true, if_false]
        rw [apart_f _ (by simp) (by simp)]
        simp only [Option.bind_some]
        have e0 : 0#64 &&& bitsOf ⟨a, n⟩ = 0#64 := by simp
        have e1 : apartL 0#64 [⟨a, n⟩, ⟨b, m⟩] = decide (Apart a.toNat n.toNat b.toNat m.toNat) := by
          have hs := mask_shl_and ha hb (by omega) (by omega)
          unfold apartL
          rw [if_pos ⟨hf, e0⟩]
          unfold apartL
          have e2 : (0#64 ||| bitsOf ⟨a, n⟩) &&& bitsOf ⟨b, m⟩ = mask n.toNat <<< a.toNat &&& mask m.toNat <<< b.toNat := by simp [bitsOf]
          rw [e2]
          by_cases hp : Apart a.toNat n.toNat b.toNat m.toNat
          · rw [if_pos ⟨hg, hs.2 hp⟩, decide_eq_true hp]
            rfl
          · rw [if_neg (fun h => hp (hs.1 h.2)), decide_eq_false hp]
        rw [e1]
        by_cases hp : Apart a.toNat n.toNat b.toNat m.toNat
        · rw [decide_eq_true hp]
          simp only [if_true]
          rw [max_yes hg]
          simp only [Option.bind_some]
          rw [bitsU_and, B_I, hY, put_yes hg LY, put_yes hg LY]
          simp only [Option.bind_some]
          rw [put_yes hf LX, get_yes hg (r _).1 (r _).2, get_yes hg w0 w1]
          simp only [Option.bind_some]
          simp only [B_I]
          rw [get_put_apart ha hb hp Hx, put_comm ha hb hp Hx Hy]
          simp
        · rw [decide_eq_false hp]
          simp
      exact j0
    · rw [is_no hg]
      simp [revenantlaw01_FieldBack.j0]
  · rw [is_no hf]
    simp [revenantlaw01_FieldBack.j0]
theorem RFieldBack (a n b m x2 x3 x4 : Int) (_ : (Lit.int .i64 a).wf = true ∧ (Lit.int .i64 n).wf = true) (_ : (Lit.int .i64 b).wf = true ∧ (Lit.int .i64 m).wf = true) (g : (Lit.int .u64 x2).wf = true) (_ : (Lit.int .u64 x3).wf = true) (_ : (Lit.int .u64 x4).wf = true) :
    ∃ k, revenantlaw01_FieldBack.f k a n b m x2 x3 x4 = some true := ⟨9, FieldBack _ _ _ _ _ _ _ g⟩
end Go.Proofs.Ytmdncdepdnpjiaa.Pure
