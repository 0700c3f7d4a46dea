import Derived.Test.YtinmmnljicmppaaDoorUTaleLawT
import Derived.Test.YtinmmnljicmppaaDoorUWords
/-
Of every answer the line is the document's: the plain law.
-/
namespace Go.Proofs.YtinmmnljicmppaaDoor.PTaleApart
open Go Go.RowKit Go.Proofs.YtinmmnljicmppaaDoorW.PrintWords Go.Proofs.YtinmmnljicmppaaDoorW.PrintLast Go.Proofs.YtinmmnljicmppaaDoorW.PrintMore Go.Proofs.YtinmmnljicmppaaDoor.Str Go.Proofs.YtinmmnljicmppaaDoor.U
set_option linter.unusedVariables false
set_option linter.unusedSimpArgs false
theorem wrap_u {x : Int} (h0 : 0 ≤ x) (h1 : x < 18446744073709551616) : IntKind.u64.wrap x = x := by
  unfold IntKind.wrap IntKind.bits
  simp [IntKind.signed]
  omega
theorem digit_str (d : Nat) (hd : d < 10) : strOfNums [(IntKind.u64.wrap (48 + (d : Int))) % 256] = ⟨#[UInt8.ofNat (48 + d)]⟩ := by
  rw [wrap_u (by omega) (by omega), show (48 + (d : Int)) % 256 = ((48 + d : Nat) : Int) by omega]
  rfl
theorem bsomeN {α β : Type} (x : α) (f : α → Option β) : (some x).bind f = f x := rfl
theorem l0_digits (k : Nat) : ∀ (n : Nat) (s : ByteArray), n < 10 ^ (k + 1) → (n : Int) < 18446744073709551616 → s.size + k ≤ 1000 →
    revenantref32_Num.l0 (k + 1) (n : Int) s = some (if n < 10 then s else ⟨(Lib.decDigits (n / 10)).toArray⟩ ++ s) := by
  induction k with
  | zero =>
    intro n s hn _ _
    have hn' : n < 10 := by simpa using hn
    unfold revenantref32_Num.l0
    rw [if_neg (by omega), if_pos hn']
  | succ k ih =>
    intro n s hn hu hs
    unfold revenantref32_Num.l0
    by_cases h10 : n < 10
    · rw [if_neg (by omega), if_pos h10]
    · rw [if_pos (by omega), if_neg h10]
      have e1 : Int.tdiv (n : Int) 10 = ((n / 10 : Nat) : Int) := by
        rw [Int.tdiv_eq_ediv_of_nonneg (by omega)]; omega
      have e2 : Int.tmod ((n / 10 : Nat) : Int) 10 = ((n / 10 % 10 : Nat) : Int) := by
        rw [Int.tmod_eq_emod_of_nonneg (by omega)]; omega
      have hw : IntKind.u64.wrap ((n / 10 : Nat) : Int) = ((n / 10 : Nat) : Int) := wrap_u (by omega) (by omega)
      have hz : (⟨#[UInt8.ofNat (48 + n / 10 % 10)]⟩ : ByteArray).size = 1 := rfl
      rw [e1, hw, e2]
      refine (bsomeN _ _).trans ?_
      rw [digit_str _ (by omega), if_pos (by rw [hz]; omega)]
      rw [ih (n / 10) _ (by rw [Nat.pow_succ] at hn; omega) (by omega) (by rw [ByteArray.size_append, hz]; omega)]
      by_cases h100 : n / 10 < 10
      · rw [if_pos h100, Lib.decDigits_one h100, Nat.mod_eq_of_lt h100]
      · rw [if_neg h100]
        congr 1
        rw [Lib.decDigits.eq_def (n / 10), dif_neg h100]
        apply ByteArray.ext
        simp
theorem num32 (n : Nat) (h : (n : Int) < 18446744073709551616) : revenantref32_Num.f 21 (n : Int) = some ⟨(Lib.decDigits n).toArray⟩ := by
  unfold revenantref32_Num.f
  have e2 : Int.tmod (n : Int) 10 = ((n % 10 : Nat) : Int) := by rw [Int.tmod_eq_emod_of_nonneg (by omega)]; omega
  rw [e2, digit_str _ (by omega), l0_digits 20 n _ (by
    have : (10 : Nat) ^ 21 = 1000000000000000000000 := by decide
    omega) h (by
    have : (⟨#[UInt8.ofNat (48 + n % 10)]⟩ : ByteArray).size = 1 := rfl
    omega)]
  by_cases h10 : n < 10
  · rw [if_pos h10, Lib.decDigits_one h10, Nat.mod_eq_of_lt h10]
  · rw [if_neg h10]
    congr 1
    rw [Lib.decDigits.eq_def n, dif_neg h10]
    apply ByteArray.ext
    simp
theorem num32_k {k : Nat} (hk : 21 ≤ k) {n : Int} (h : U64 n) : revenantref32_Num.f k n = some (nuB n) := by
  unfold U64 at h
  obtain ⟨m, rfl⟩ := Int.eq_ofNat_of_zero_le h.1
  obtain ⟨j, rfl⟩ : ∃ j, k = 21 + j := ⟨k - 21, by omega⟩
  have h2 : ∀ j, revenantref32_Num.f (21 + j) (m : Int) = some (nuB (m : Int)) := by
    intro j
    induction j with
    | zero => exact num32 m (by omega)
    | succ j ih => exact revenantref32_Num.mono _ _ _ ih
  exact h2 j
theorem join2 {x y : ByteArray} (hx : x.data.toList.length ≤ 1000000) (hy : y.data.toList.length ≤ 1000000) : tale_join.f [x, y] = some ((x ++ (⟨#[32]⟩ : ByteArray)) ++ y) := by
  rw [join_f (by simp) (by
    intro z hz
    simp only [List.mem_cons, List.not_mem_nil, or_false] at hz
    rcases hz with rfl | rfl
    · exact hx
    · exact hy)]
  unfold joinB
  rw [ba_append, ba_append]
  show some (⟨(Lib.join [x.data.toList, y.data.toList] [32]).toArray⟩ : ByteArray) = _
  congr 2
  rw [Lib.join_cons]
  simp [Lib.joinTail]
theorem nuB_size {n : Int} (h : U64 n) : (nuB n).size ≤ 20 := by
  have := nuB_len n h
  rw [Array.length_toList] at this
  exact this
theorem tells_pure {e : Int} {dn : Bool} {v : Int} (he : I64 e) (hv : U64 v) : revenantlaw32_TaleTells.f 100 e dn v = some true := by
  have hw1 : ∀ x : Int, I64 x → U64 (IntKind.u64.wrap x) := fun x hx => by
    unfold U64 IntKind.wrap IntKind.bits
    simp [IntKind.signed]
    omega
  have hw2 : ∀ x : Int, U64 (IntKind.u64.wrap (-(IntKind.u64.wrap x))) := fun x => by
    unfold U64 IntKind.wrap IntKind.bits
    simp [IntKind.signed]
    omega
  have j3 : ∀ (x : ByteArray) (m : Nat), 30 ≤ m → (e ≠ 6 → e ≠ 7 → tale_Tell.f m e dn v = some x) → revenantlaw32_TaleTells.j3 (m + 1) x e dn v = some true := by
    intro x m hm hx
    simp only [revenantlaw32_TaleTells.j3]
    by_cases h6 : e = 6
    · subst h6
      rw [if_pos rfl, if_neg (by decide)]
      unfold tale_Tell.f
      rw [if_pos rfl, bsome, ByteArray.toList_eq]
      rfl
    · rw [if_neg h6]
      by_cases h7 : e = 7
      · subst h7
        rw [if_pos rfl]
        unfold tale_Tell.f
        rw [if_neg (by decide), if_pos rfl, bsome, ByteArray.toList_eq]
        rfl
      · rw [if_neg h7, hx h6 h7, bsome]
        simp
  have j1 : ∀ (x : ByteArray) (m : Nat), 60 ≤ m → (e = 0 → tale_Tell.f (m - 2) e dn v = some x) → revenantlaw32_TaleTells.j1 (m + 1) x e dn v = some true := by
    intro x m hm hx
    obtain ⟨m, rfl⟩ : ∃ q, m = q + 2 := ⟨m - 2, by omega⟩
    rw [Nat.add_sub_cancel] at hx
    have err : ∀ b : ByteArray, e ≠ 0 → e ≠ 6 → e ≠ 7 → tale_Tell.f m e dn v = some (((⟨#[101, 114, 114, 111, 114]⟩ : ByteArray) ++ (⟨#[32]⟩ : ByteArray)) ++ itB e) := by
      intro b h0 h6 h7
      unfold tale_Tell.f
      rw [if_neg h6, if_neg h7, if_neg h0, itoaG_eq he, bsome, join2 (by decide) (by have := itB_len e he; omega), bsome]
    simp only [revenantlaw32_TaleTells.j1]
    by_cases hp : e > 0
    · have hwe : IntKind.u64.wrap e = e := wrap_u (by omega) (by unfold I64 at he; omega)
      have hue : U64 e := by unfold U64; unfold I64 at he; omega
      have hs := nuB_size hue
      rw [if_pos hp, hwe, num32_k (by omega) hue, bsome, if_pos (by omega)]
      simp only [revenantlaw32_TaleTells.j2]
      rw [if_neg (by omega)]
      refine j3 _ m (by omega) (fun h6 h7 => ?_)
      rw [err ⟨#[]⟩ (by omega) h6 h7]
      have hi : itB e = nuB e := by
        obtain ⟨q, hq⟩ := Int.eq_ofNat_of_zero_le (show 0 ≤ e by omega)
        rw [hq, itB_nat]
        unfold nuB
        rw [Int.toNat_natCast]
      rw [hi]
      congr 2
    · rw [if_neg hp]
      simp only [revenantlaw32_TaleTells.j2]
      by_cases hn : e < 0
      · have hs := nuB_size (hw2 e)
        rw [if_pos hn, num32_k (by omega) (hw2 e), bsome, if_pos (by omega)]
        refine j3 _ m (by omega) (fun h6 h7 => ?_)
        rw [err ⟨#[]⟩ (by omega) h6 h7]
        have hwn : IntKind.u64.wrap (-(IntKind.u64.wrap e)) = ((e.natAbs : Nat) : Int) := by
          unfold I64 at he
          unfold IntKind.wrap IntKind.bits
          simp [IntKind.signed]
          omega
        rw [hwn]
        congr 1
        apply ByteArray.ext
        rw [ba_append, ba_append, ba_append]
        unfold itB nuB Lib.itoa
        rw [if_pos hn, Int.toNat_natCast]
        simp
      · rw [if_neg hn]
        exact j3 _ m (by omega) (fun h6 h7 => hx (by omega))
  have j0 : ∀ x : ByteArray, x.size ≤ 3 → x.data.toList.length ≤ 3 → (e = 0 → ∀ m, tale_Tell.f m e dn v = tale_Tell.j0 m x e dn v) → revenantlaw32_TaleTells.j0 100 x e dn v = some true := by
    intro x hx hx2 ht
    simp only [revenantlaw32_TaleTells.j0]
    by_cases h0 : v = 0
    · rw [if_pos h0]
      refine j1 x 98 (by omega) (fun h => ?_)
      rw [ht h, show 98 - 2 = 95 + 1 from rfl]
      simp only [tale_Tell.j0]
      rw [if_pos h0]
    · have hs := nuB_size hv
      have h1 : (x ++ (⟨#[32]⟩ : ByteArray)).size ≤ 4 := by rw [ByteArray.size_append]; show x.size + 1 ≤ 4; omega
      rw [if_neg h0, if_pos (by omega), num32_k (by omega) hv, bsome, if_pos (by omega)]
      refine j1 _ 98 (by omega) (fun h => ?_)
      rw [ht h, show 98 - 2 = 95 + 1 from rfl]
      simp only [tale_Tell.j0]
      rw [if_neg h0, num_eq hv, bsome, join2 (by omega) (by have := nuB_len v hv; omega), bsome]
  unfold revenantlaw32_TaleTells.f revenantlaw32_awake.f
  rw [bsome, if_pos rfl]
  by_cases hd : dn = true
  · rw [if_pos hd]
    refine j0 _ (by decide) (by decide) (fun h m => ?_)
    unfold tale_Tell.f
    rw [if_neg (by omega), if_neg (by omega), if_pos h, if_pos hd]
  · rw [if_neg hd]
    refine j0 _ (by decide) (by decide) (fun h m => ?_)
    unfold tale_Tell.f
    rw [if_neg (by omega), if_neg (by omega), if_pos h, if_neg hd]
end Go.Proofs.YtinmmnljicmppaaDoor.PTaleApart
