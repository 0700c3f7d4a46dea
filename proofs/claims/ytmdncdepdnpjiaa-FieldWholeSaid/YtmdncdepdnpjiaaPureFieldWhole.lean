/-
Of every row of widths and every word: fields side by side that cover the word are unpacked, and packed again as it was. No condition beyond the row's own.
-/
import Derived.Test.YtmdncdepdnpjiaaPFieldWholex4
import Derived.Test.YtmdncdepdnpjiaaWords
namespace Go.Proofs.Ytmdncdepdnpjiaa.PFieldWhole
open Go Go.RowKit Go.Proofs.YtmdncdepdnpjiaaW.PrintWords Go.Proofs.YtmdncdepdnpjiaaW.PrintLast Go.Proofs.YtmdncdepdnpjiaaW.PrintMore Go.Proofs.Ytmdncdepdnpjiaa.U
set_option linter.unusedVariables false

/-- A field that can be. -/
def IsF (a n : Int) : Prop := 0 ≤ a ∧ 1 ≤ n ∧ n ≤ 64 ∧ a ≤ 64 - n
instance (a n : Int) : Decidable (IsF a n) := by unfold IsF; exact inferInstance
theorem is_f (a n : Int) : field_Field_Is.f a n = some (decide (IsF a n)) := by
  unfold field_Field_Is.f IsF
  by_cases h1 : 0 ≤ a
  · by_cases h2 : 1 ≤ n
    · by_cases h3 : n ≤ 64
      · rw [if_pos h1, if_pos h2, if_pos h3, w64 (by omega) (by omega)]
        simp [h1, h2, h3]
      · rw [if_pos h1, if_pos h2, if_neg h3]
        simp [h3]
    · rw [if_pos h1, if_neg h2]
      simp [h2]
  · rw [if_neg h1]
    simp [h1]
theorem is_yes {a n : Int} (h : IsF a n) : field_Field_Is.f a n = some true := by rw [is_f, decide_eq_true h]
theorem is_no {a n : Int} (h : ¬ IsF a n) : field_Field_Is.f a n = some false := by rw [is_f, decide_eq_false h]
theorem wrapU_small {x : Int} (h0 : 0 ≤ x) (h1 : x < 18446744073709551616) : IntKind.u64.wrap x = x := by rw [wrapU_mod]; omega
theorem max_yes {a n : Int} (h : IsF a n) : field_Field_Max.f a n = some (I (mask n.toNat)) := by
  have h' := h
  obtain ⟨h1, h2, h3, h4⟩ := h
  unfold field_Field_Max.f
  rw [is_yes h']
  simp only [Option.bind_some, if_true]
  rw [w64 (by omega) (by omega), wrapU_small (by omega) (by omega), if_pos (by omega), shrU (by omega) (by omega)]
  congr 2
  unfold mask
  have e : B 18446744073709551615 = BitVec.allOnes 64 := by decide
  rw [e]
  congr 1
  omega
theorem max_no {a n : Int} (h : ¬ IsF a n) : field_Field_Max.f a n = some 0 := by
  unfold field_Field_Max.f
  rw [is_no h]
  rfl
theorem get_yes {a n w : Int} (h : IsF a n) (w0 : 0 ≤ w) (w1 : w < 18446744073709551616) : field_Field_Get.f a n w = some (I (getB a.toNat n.toNat (B w))) := by
  have h' := h
  obtain ⟨h1, h2, h3, h4⟩ := h
  unfold field_Field_Get.f
  rw [is_yes h', max_yes h']
  simp only [Option.bind_some, if_true]
  rw [wrapU_small (by omega) (by omega), if_pos h1, shrU w0 w1, bitsU_and, B_I, B_I]
  rfl
theorem get_no {a n w : Int} (h : ¬ IsF a n) : field_Field_Get.f a n w = some 0 := by
  unfold field_Field_Get.f
  rw [is_no h]
  rfl
theorem put_yes {a n w x : Int} (h : IsF a n) (hx : x ≤ I (mask n.toNat)) : field_Field_Put.f a n w x = some (I (putB a.toNat n.toNat (B w) (B x)), true) := by
  have h' := h
  obtain ⟨h1, h2, h3, h4⟩ := h
  unfold field_Field_Put.f
  rw [is_yes h', max_yes h']
  simp only [Option.bind_some, if_true]
  rw [if_neg (by omega), wrapU_small (by omega) (by omega), if_pos h1, shlU, shlU, bitsU_andNot, bitsU_or, B_I, B_I, B_I, B_I]
  rfl
theorem put_great {a n w x : Int} (h : IsF a n) (hx : ¬ x ≤ I (mask n.toNat)) : field_Field_Put.f a n w x = some (0, false) := by
  unfold field_Field_Put.f
  rw [is_yes h, max_yes h]
  simp only [Option.bind_some, if_true]
  rw [if_pos (by omega)]
theorem put_no {a n w x : Int} (h : ¬ IsF a n) : field_Field_Put.f a n w x = some (0, false) := by
  unfold field_Field_Put.f
  rw [is_no h]
  rfl
theorem turn_f {w n : Int} (w0 : 0 ≤ w) (w1 : w < 18446744073709551616) : field_Turn.f w n = some (I (turnB (n % 64).toNat (B w))) := by
  have e : Int.tmod (IntKind.u64.wrap n) 64 = n % 64 := by
    rw [wrapU_mod, Int.tmod_eq_emod_of_nonneg (by omega)]
    omega
  unfold field_Turn.f
  rw [e, if_pos (by omega), wrapU_small (by omega) (by omega), if_pos (by omega), shlU, shrU w0 w1, bitsU_or, B_I, B_I]
  congr 2
  unfold turnB
  congr 2
  omega
theorem int_f {w : Int} (w0 : 0 ≤ w) (w1 : w < 18446744073709551616) : field_Int.f w = some (if w < 9223372036854775808 then (w, true) else (0, false)) := by
  unfold field_Int.f
  by_cases h : w < 9223372036854775808
  · rw [w64 (by omega) (by omega), if_neg (by omega), if_pos h]
  · rw [if_pos (by unfold wrap64; omega), if_neg h]
theorem awake_f : revenantlaw01_awake.f = some true := by decide +kernel
end Go.Proofs.Ytmdncdepdnpjiaa.PFieldWhole
namespace Go.Proofs.Ytmdncdepdnpjiaa.PFieldWhole
open Go Go.RowKit Go.Proofs.YtmdncdepdnpjiaaW.PrintWords Go.Proofs.YtmdncdepdnpjiaaW.PrintLast Go.Proofs.YtmdncdepdnpjiaaW.PrintMore Go.Proofs.Ytmdncdepdnpjiaa.U
set_option linter.unusedVariables false
/-- A field's bits. -/
def bitsOf (f : S23) : BitVec 64 := mask f.f1.toNat <<< f.f0.toNat
/-- Whether fields are apart, behind used bits. -/
def apartL : BitVec 64 → List S23 → Bool
  | _, [] => true
  | u, f :: fs => if IsF f.f0 f.f1 ∧ u &&& bitsOf f = 0#64 then apartL (u ||| bitsOf f) fs else false
theorem and63 {x : Int} (h0 : 0 ≤ x) (h1 : x < 64) : bits .and .i64 x 63 = x := by
  have h := bits_mask .i64 63 (by decide) (fun n h0 h1 => by rw [IntKind.wrap_i64]; omega) 6 (by decide) x h0 (by omega)
  have e : (2 : Int) ^ 6 - 1 = 63 := by decide
  rw [e] at h
  rw [h]
  have e2 : (2 : Int) ^ 6 = 64 := by decide
  rw [e2]
  omega
theorem drop_rd (xs : List S23) (i : Int) (h0 : 0 ≤ i) (h1 : i < xs.length) : xs.drop i.toNat = rd_T23 xs i :: xs.drop (i + 1).toNat := by
  have h : i.toNat < xs.length := by omega
  rw [List.drop_eq_getElem_cons h]
  congr 1
  · simp [rd_T23, h]
  · congr 1; omega
theorem apart_l (xs : List S23) (hx : xs.length ≤ 9223372036854775807) (d : Nat) : ∀ (k : Nat) (u : BitVec 64) (i : Int), 0 ≤ i → i ≤ xs.length → (xs.length : Int) - i = d → d < k →
    field_Apart.l0 k (I u) xs (xs.length : Int) i = some (apartL u (xs.drop i.toNat)) := by
  induction d with
  | zero =>
    intro k u i h0 h1 hd hk
    obtain ⟨k, rfl⟩ : ∃ m, k = m + 1 := ⟨k - 1, by omega⟩
    simp only [field_Apart.l0]
    rw [if_neg (by omega), List.drop_of_length_le (by omega)]
    rfl
  | succ d ih =>
    intro k u i h0 h1 hd hk
    obtain ⟨k, rfl⟩ : ∃ m, k = m + 1 := ⟨k - 1, by omega⟩
    simp only [field_Apart.l0]
    rw [if_pos (by omega), if_pos h0, if_pos (by omega), drop_rd xs i h0 (by omega)]
    generalize rd_T23 xs i = f
    have hw : 0 ≤ IntKind.u64.wrap (bits .and .i64 f.f0 63) := by rw [wrapU_mod]; omega
    unfold apartL
    by_cases hf : IsF f.f0 f.f1
    · obtain ⟨g1, g2, g3, g4⟩ := hf
      have hf : IsF f.f0 f.f1 := ⟨g1, g2, g3, g4⟩
      rw [max_yes hf, is_yes hf]
      simp only [Option.bind_some, if_true]
      rw [if_pos hw, and63 g1 (by omega), wrapU_small g1 (by omega), shlU, B_I, bitsU_and, bitsU_or, B_I, B_I]
      have e0 : (I (u &&& mask f.f1.toNat <<< f.f0.toNat) = 0) ↔ (u &&& bitsOf f = 0#64) := by
        rw [show (0 : Int) = I 0#64 from rfl, I_inj]
        rfl
      by_cases hz : u &&& bitsOf f = 0#64
      · rw [if_pos (e0.2 hz), if_pos ⟨hf, hz⟩, w64 (by omega) (by omega)]
        exact ih k _ (i + 1) (by omega) (by omega) (by omega) (by omega)
      · rw [if_neg (fun h => hz (e0.1 h)), if_neg (fun h => hz h.2)]
    · rw [max_no hf, is_no hf]
      simp only [Option.bind_some, Bool.false_eq_true, if_false]
      rw [if_pos hw, if_neg (fun h => hf h.1)]
theorem apart_f (xs : List S23) (hx : xs.length ≤ 9223372036854775807) {k : Nat} (hk : xs.length < k) : field_Apart.f k xs = some (apartL 0#64 xs) := by
  unfold field_Apart.f
  exact apart_l xs hx xs.length k 0#64 0 (by omega) (by omega) (by omega) hk
end Go.Proofs.Ytmdncdepdnpjiaa.PFieldWhole
namespace Go.Proofs.Ytmdncdepdnpjiaa.PFieldWhole
open Go Go.RowKit Go.Proofs.YtmdncdepdnpjiaaW.PrintWords Go.Proofs.YtmdncdepdnpjiaaW.PrintLast Go.Proofs.YtmdncdepdnpjiaaW.PrintMore Go.Proofs.Ytmdncdepdnpjiaa.U
/-- Fields side by side, from s to e. -/
def Tiles : Int → List S23 → Int → Prop
  | s, [], e => s = e
  | s, f :: fs, e => f.f0 = s ∧ 1 ≤ f.f1 ∧ Tiles (s + f.f1) fs e
theorem tiles_le : ∀ (l : List S23) (s e : Int), Tiles s l e → s + l.length ≤ e
  | [], s, e, h => by unfold Tiles at h; simp; omega
  | f :: fs, s, e, h => by
    obtain ⟨_, h2, h3⟩ := h
    have := tiles_le fs _ _ h3
    simp
    omega
theorem tiles_snoc : ∀ (l : List S23) (s e : Int) (g : S23), Tiles s l e → g.f0 = e → 1 ≤ g.f1 → Tiles s (l ++ [g]) (e + g.f1)
  | [], s, e, g, h, h1, h2 => by
    unfold Tiles at h
    subst h
    exact ⟨h1, h2, rfl⟩
  | f :: fs, s, e, g, h, h1, h2 => ⟨h.1, h.2.1, tiles_snoc fs _ _ g h.2.2 h1 h2⟩
theorem mask_or {s n : Nat} (h : s + n ≤ 64) : mask s ||| (mask n <<< s) = mask (s + n) := by
  apply eq_of_bits
  intro i hi
  rw [BitVec.getLsbD_or, BitVec.getLsbD_shiftLeft, mask_bit (by omega), mask_bit (by omega), mask_bit (by omega)]
  by_cases h1 : i < s
  · have h2 : i < s + n := by omega
    simp [h1, h2]
  · by_cases h2 : i < s + n
    · have h3 : i - s < n := by omega
      simp [h1, h2, h3, hi]
    · have h3 : ¬ i - s < n := by omega
      simp [h1, h2, h3]
theorem mask_and {s n : Nat} (h : s + n ≤ 64) : mask s &&& (mask n <<< s) = 0#64 := by
  apply eq_of_bits
  intro i hi
  rw [BitVec.getLsbD_and, BitVec.getLsbD_shiftLeft, mask_bit (by omega), mask_bit (by omega)]
  by_cases h1 : i < s
  · simp [h1]
  · simp [h1]
theorem tiles_isF {f : S23} {fs : List S23} {s e : Int} (h : Tiles s (f :: fs) e) (hs : 0 ≤ s) (he : e ≤ 64) : IsF f.f0 f.f1 := by
  obtain ⟨h1, h2, h3⟩ := h
  have := tiles_le _ _ _ h3
  unfold IsF
  omega
theorem apart_tiles : ∀ (l : List S23) (s e : Int), 0 ≤ s → e ≤ 64 → Tiles s l e → apartL (mask s.toNat) l = true
  | [], _, _, _, _, _ => rfl
  | f :: fs, s, e, hs, he, h => by
    have hf := tiles_isF h hs he
    obtain ⟨h1, h2, h3⟩ := h
    have hl := tiles_le _ _ _ h3
    unfold apartL
    have eb : bitsOf f = mask f.f1.toNat <<< s.toNat := by unfold bitsOf; rw [h1]
    rw [eb, if_pos ⟨hf, mask_and (by omega)⟩, mask_or (by omega), show s.toNat + f.f1.toNat = (s + f.f1).toNat by omega]
    exact apart_tiles fs (s + f.f1) e (by omega) he h3
/-- The fields' numbers in a word. -/
def numsOf (w : BitVec 64) (l : List S23) : List Int := l.map fun f => I (getB f.f0.toNat f.f1.toNat w)
theorem unpack_l {w : Int} (w0 : 0 ≤ w) (w1 : w < 18446744073709551616) (l : List S23) (hl : l.length ≤ 64) (hF : ∀ f ∈ l, IsF f.f0 f.f1) (d : Nat) : ∀ (k i : Nat), i ≤ l.length → l.length - i = d → d < k →
    field_Unpack.l0 k w (numsOf (B w) (l.take i)) l (l.length : Int) (i : Int) = some (numsOf (B w) l) := by
  induction d with
  | zero =>
    intro k i h0 hd hk
    obtain ⟨k, rfl⟩ : ∃ m, k = m + 1 := ⟨k - 1, by omega⟩
    simp only [field_Unpack.l0]
    rw [if_neg (by omega), List.take_of_length_le (by omega)]
  | succ d ih =>
    intro k i h0 hd hk
    obtain ⟨k, rfl⟩ : ∃ m, k = m + 1 := ⟨k - 1, by omega⟩
    simp only [field_Unpack.l0]
    have hi : i < l.length := by omega
    have er : rd_T23 l (i : Int) = l[i] := by simp [rd_T23, hi]
    have nx := ih k (i + 1) (by omega) (by omega) (by omega)
    rw [if_pos (by omega), if_pos (by omega), if_pos (by omega), er, get_yes (hF _ (List.getElem_mem hi)) w0 w1]
    simp only [bsome]
    have hlen : (numsOf (B w) (l.take i)).length ≤ 64 := by unfold numsOf; rw [List.length_map, List.length_take]; omega
    have e1 : numsOf (B w) (l.take i) ++ [I (getB l[i].f0.toNat l[i].f1.toNat (B w))] = numsOf (B w) (l.take (i + 1)) := by
      unfold numsOf
      rw [List.take_succ_eq_append_getElem hi, List.map_append]
      rfl
    have e2 : wrap64 ((i : Int) + 1) = ((i + 1 : Nat) : Int) := by rw [w64 (by omega) (by omega)]; omega
    rw [if_pos (by omega), e1, e2]
    exact nx
theorem put_next {s n : Nat} (h : s + n ≤ 64) (w : BitVec 64) : putB s n (w &&& mask s) (getB s n w) = w &&& mask (s + n) := by
  apply eq_of_bits
  intro i hi
  rw [put_bit (by omega) (fits_get (by omega) w) _ hi, BitVec.getLsbD_and, BitVec.getLsbD_and, mask_bit (by omega), mask_bit (by omega)]
  by_cases h1 : i < s
  · have h2 : i < s + n := by omega
    simp [h1, h2]
  · by_cases h2 : i < s + n
    · have h3 : i - s < n := by omega
      have h4 : s + (i - s) = i := by omega
      rw [if_neg h1, if_pos h2, get_bit (by omega)]
      simp [h2, h3, h4]
    · rw [if_neg h1, if_neg h2]
      simp [h1, h2]
theorem pack_l {w : Int} (l : List S23) (hl : l.length ≤ 64) (d : Nat) : ∀ (k i : Nat) (s : Int), 0 ≤ s → Tiles s (l.drop i) 64 → i ≤ l.length → l.length - i = d → d < k →
    field_Pack.l0 k (numsOf (B w) l) (I (B w &&& mask s.toNat)) l (l.length : Int) (i : Int) = some (I (B w &&& mask 64), true) := by
  induction d with
  | zero =>
    intro k i s hs ht h0 hd hk
    obtain ⟨k, rfl⟩ : ∃ m, k = m + 1 := ⟨k - 1, by omega⟩
    simp only [field_Pack.l0]
    rw [List.drop_of_length_le (by omega)] at ht
    unfold Tiles at ht
    subst ht
    rw [if_neg (by omega)]
    rfl
  | succ d ih =>
    intro k i s hs ht h0 hd hk
    obtain ⟨k, rfl⟩ : ∃ m, k = m + 1 := ⟨k - 1, by omega⟩
    simp only [field_Pack.l0]
    have hi : i < l.length := by omega
    have er : rd_T23 l (i : Int) = l[i] := by simp [rd_T23, hi]
    rw [List.drop_eq_getElem_cons hi] at ht
    have hf := tiles_isF ht hs (by omega)
    obtain ⟨t1, t2, t3⟩ := ht
    have hle := tiles_le _ _ _ t3
    have nx := ih k (i + 1) (s + l[i].f1) (by omega) t3 (by omega) (by omega) (by omega)
    have hlen : (numsOf (B w) l).length = l.length := by unfold numsOf; rw [List.length_map]
    have b1 : s.toNat + l[i].f1.toNat ≤ 64 := by omega
    have b2 : l[i].f1.toNat ≤ 64 := by omega
    have b3 : s.toNat + l[i].f1.toNat = (s + l[i].f1).toNat := by omega
    rw [if_pos (by omega), if_pos (by omega), if_pos (by omega), if_pos (by omega), er, w64 (x := (i : Int) + 1) (by omega) (by omega), show (i : Int) + 1 = ((i + 1 : Nat) : Int) by omega]
    have en : rd (numsOf (B w) l) (i : Int) = I (getB s.toNat l[i].f1.toNat (B w)) := by
      unfold rd numsOf
      rw [← t1]
      simp [hi]
    have hfit := le_of_fits (n := l[i].f1.toNat) b2 (fits_get (a := s.toNat) b2 (B w))
    have hfit2 : I (getB s.toNat l[i].f1.toNat (B w)) ≤ I (mask l[i].f1.toNat) := Int.ofNat_le.2 hfit
    rw [en, put_yes hf hfit2, t1, B_I, B_I, put_next b1]
    simp only [bsome, if_true]
    rw [b3]
    exact nx
theorem mask_zero : mask 0 = 0#64 := by decide
theorem mask_all (w : BitVec 64) : w &&& mask 64 = w := by
  apply eq_of_bits
  intro i hi
  rw [BitVec.getLsbD_and, mask_bit (by omega)]
  simp [hi]
theorem tiles_all : ∀ (l : List S23) (s e : Int), 0 ≤ s → e ≤ 64 → Tiles s l e → ∀ f ∈ l, IsF f.f0 f.f1
  | [], _, _, _, _, _ => fun f hf => by cases hf
  | g :: fs, s, e, hs, he, h => by
    intro f hf
    rcases List.mem_cons.1 hf with rfl | hf
    · exact tiles_isF h hs he
    · exact tiles_all fs _ _ (by have := h.2.1; omega) he h.2.2 f hf
theorem whole_end {w : Int} (w0 : 0 ≤ w) (w1 : w < 18446744073709551616) (l : List S23) (ht : Tiles 0 l 64) {k : Nat} (hk : 70 < k) : revenantlaw01_FieldWhole.j2 k w l = some true := by
  obtain ⟨k, rfl⟩ : ∃ m, k = m + 1 := ⟨k - 1, by omega⟩
  have hl := tiles_le _ _ _ ht
  have hl64 : l.length ≤ 64 := by omega
  simp only [revenantlaw01_FieldWhole.j2]
  have ha := apart_tiles l 0 64 (by omega) (by omega) ht
  have e0 : mask (0 : Int).toNat = 0#64 := mask_zero
  rw [e0] at ha
  have hu : field_Unpack.f k l w = some (numsOf (B w) l) := unpack_l w0 w1 l hl64 (tiles_all l 0 64 (by omega) (by omega) ht) l.length k 0 (by omega) (by omega) (by omega)
  have hp : field_Pack.f k l (numsOf (B w) l) = some (w, true) := by
    obtain ⟨k, rfl⟩ : ∃ m, k = m + 1 := ⟨k - 1, by omega⟩
    unfold field_Pack.f
    rw [apart_f l (by omega) (by omega), ha]
    simp only [bsome, if_true]
    have hlen : (numsOf (B w) l).length = l.length := by unfold numsOf; rw [List.length_map]
    rw [hlen, bne_self_eq_false]
    simp only [field_Pack.j0, Bool.false_eq_true, if_false]
    have z := pack_l (w := w) l hl64 l.length k 0 0 (by omega) ht (by omega) (by omega) (by omega)
    rw [e0, mask_all, I_B_of w0 w1] at z
    have z0 : I (B w &&& 0#64) = 0 := by
      have : B w &&& 0#64 = 0#64 := by simp
      rw [this]; rfl
    rw [z0] at z
    exact z
  rw [apart_f l (by omega) (by omega), ha]
  simp only [bsome, if_true]
  rw [hu]
  simp only [bsome]
  rw [hp]
  simp only [bsome, if_true]
  have hlen : (numsOf (B w) l).length = l.length := by unfold numsOf; rw [List.length_map]
  rw [hlen]
  simp
theorem whole_j1 {w : Int} (w0 : 0 ≤ w) (w1 : w < 18446744073709551616) (l : List S23) (s : Int) (hs : 0 ≤ s) (h64 : s ≤ 64) (ht : Tiles 0 l s) {k : Nat} (hk : 71 < k) : revenantlaw01_FieldWhole.j1 k w l s = some true := by
  obtain ⟨k, rfl⟩ : ∃ m, k = m + 1 := ⟨k - 1, by omega⟩
  have hl := tiles_le _ _ _ ht
  simp only [revenantlaw01_FieldWhole.j1]
  by_cases h : s < 64
  · rw [if_pos h, if_pos (by omega), w64 (by omega) (by omega)]
    have := tiles_snoc l 0 s ⟨s, 64 - s⟩ ht rfl (by show 1 ≤ 64 - s; omega)
    have e : s + (⟨s, 64 - s⟩ : S23).f1 = 64 := by show s + (64 - s) = 64; omega
    rw [e] at this
    exact whole_end w0 w1 _ this (by omega)
  · rw [if_neg h]
    have : s = 64 := by omega
    subst this
    exact whole_end w0 w1 _ ht (by omega)
theorem whole_l {w : Int} (w0 : 0 ≤ w) (w1 : w < 18446744073709551616) (x : List Int) (hx : x.length ≤ 9223372036854775807) (d : Nat) : ∀ (k i : Nat) (l : List S23) (s : Int), 0 ≤ s → s ≤ 64 → Tiles 0 l s → i ≤ x.length → x.length - i = d → d + 75 < k →
    revenantlaw01_FieldWhole.l0 k x w l s (i : Int) = some true := by
  induction d with
  | zero =>
    intro k i l s hs h64 ht h0 hd hk
    obtain ⟨k, rfl⟩ : ∃ m, k = m + 1 := ⟨k - 1, by omega⟩
    simp only [revenantlaw01_FieldWhole.l0]
    rw [if_neg (by omega)]
    exact whole_j1 w0 w1 l s hs h64 ht (by omega)
  | succ d ih =>
    intro k i l s hs h64 ht h0 hd hk
    obtain ⟨k, rfl⟩ : ∃ m, k = m + 1 := ⟨k - 1, by omega⟩
    simp only [revenantlaw01_FieldWhole.l0]
    rw [if_pos (by omega)]
    by_cases h : s < 64
    · have hl := tiles_le _ _ _ ht
      rw [if_pos h, if_pos (by omega), w64 (x := 64 - s) (by omega) (by omega), wrapU_small (x := 64 - s) (by omega) (by omega), if_neg (by omega), if_pos (by omega)]
      have hU : 0 ≤ IntKind.u64.wrap (rd x (i : Int)) := by rw [wrapU_mod]; omega
      rw [tmod_pos hU]
      have m0 : 0 ≤ IntKind.u64.wrap (rd x (i : Int)) % (64 - s) := Int.emod_nonneg _ (by omega)
      have m1 : IntKind.u64.wrap (rd x (i : Int)) % (64 - s) < 64 - s := Int.emod_lt_of_pos _ (by omega)
      generalize IntKind.u64.wrap (rd x (i : Int)) % (64 - s) = m at *
      clear hU
      rw [w64 (x := m) (by omega) (by omega), w64 (x := 1 + m) (by omega) (by omega), w64 (x := s + (1 + m)) (by omega) (by omega), w64 (x := (i : Int) + 1) (by omega) (by omega)]
      have := tiles_snoc l 0 s ⟨s, 1 + m⟩ ht rfl (by show 1 ≤ 1 + m; omega)
      have e : s + (⟨s, 1 + m⟩ : S23).f1 = s + (1 + m) := rfl
      rw [e] at this
      have ei : (i : Int) + 1 = ((i + 1 : Nat) : Int) := by omega
      rw [ei]
      exact ih k (i + 1) _ (s + (1 + m)) (by omega) (by omega) this (by omega) (by omega) (by omega)
    · rw [if_neg h]
      exact whole_j1 w0 w1 l s hs h64 ht (by omega)
end Go.Proofs.Ytmdncdepdnpjiaa.PFieldWhole
namespace Go.Proofs.Ytmdncdepdnpjiaa.Pure
open Go Go.RowKit Go.Proofs.Ytmdncdepdnpjiaa.PFieldWhole Go.Proofs.Ytmdncdepdnpjiaa.U
theorem FieldWhole : revenantlaw01_FieldWhole.Pure := by
  intro x w hx _ _ hw
  rw [wf_u64] at hw
  refine ⟨x.length + 80, ?_⟩
  unfold revenantlaw01_FieldWhole.f
  rw [awake_f]
  simp only [bsome, if_true]
  unfold maxLen at hx
  exact whole_l hw.1 hw.2 x (by omega) x.length (x.length + 80) 0 [] 0 (by omega) (by omega) rfl (by omega) (by omega) (by omega)
theorem RFieldWhole (x : List Int) (w : Int) (g : x.length ≤ maxLen ∧ x.length * 8 ≤ 140737488351232 ∧ ∀ y ∈ x, (Lit.int .i64 y).wf = true) (h : (Lit.int .u64 w).wf = true) : ∃ k, revenantlaw01_FieldWhole.f k x w = some true := FieldWhole x w g.1 g.2.1 g.2.2 h
end Go.Proofs.Ytmdncdepdnpjiaa.Pure
