/-
The plain law PlaceNames, and the table that it reads.
-/
import Derived.LaidMore
import Derived.Lib.LaidTab
import Derived.Stop.LaidErr
import Derived.ProofKit
import Derived.Test.YtcncndhoeiaoeaaDoorLNames
import Derived.Test.YtcncndhoeiaoeaaDoorWords
import Derived.Test.YtcncndhoeiaoeaaDoorRows
namespace Go.Proofs.YtcncndhoeiaoeaaDoor.PPlaceNames
open Go
set_option linter.unusedVariables false
set_option linter.unusedSimpArgs false
abbrev Bs := List UInt8
def bEpoch : Bs := [101, 112, 111, 99, 104]
def bPool : Bs := [112, 111, 111, 108]
def bFresh : Bs := [102, 114, 101, 115, 104]
def bNone : Bs := [110, 111, 110, 101]
def bRoot : Bs := [114, 111, 111, 116, 32]
def bSlot : Bs := [115, 108, 111, 116, 32]
def bNext : Bs := [110, 101, 120, 116, 32]
/-- A part's name. -/
def partL (n : Int) : Bs :=
  if n = 0 then [98, 105, 114, 116, 104] else if n = 1 then [114, 101, 116, 105, 114, 101] else if n = 2 then [99, 104, 97, 105, 110] else if n = 3 then [107, 101, 121]
  else if n = 4 then [118, 97, 108] else if n = 5 then [116, 111, 112] else if n = 6 then [115, 116, 97, 116, 101] else bNext ++ Lib.itoa (n - 7)
/-- A place's name. -/
def nameL (k s p : Int) : Bs :=
  if k = 1 ∧ s = 0 ∧ p = 0 then bEpoch else if k = 2 ∧ s = 0 ∧ p = 0 then bPool else if k = 3 ∧ s = 0 ∧ p = 0 then bFresh
  else if k = 4 ∧ s = 0 ∧ 0 ≤ p then bRoot ++ Lib.itoa p
  else if k = 5 ∧ 1 ≤ s ∧ 0 ≤ p then bSlot ++ Lib.itoa s ++ 32 :: partL p
  else bNone
/-- A blank, a digit, or a letter. -/
def goodB (c : UInt8) : Prop := c.toNat = 32 ∨ (48 ≤ c.toNat ∧ c.toNat ≤ 57) ∨ (97 ≤ c.toNat ∧ c.toNat ≤ 122)
instance (c : UInt8) : Decidable (goodB c) := by unfold goodB; infer_instance
theorem dig_nat {u : Nat} (h : u < 10) : (UInt8.ofNat (48 + u)).toNat = 48 + u := by
  rw [UInt8.toNat_ofNat']
  omega
theorem dd_digit (u : Nat) : ∀ c ∈ Lib.decDigits u, 48 ≤ c.toNat ∧ c.toNat ≤ 57 := by
  induction u using Nat.strongRecOn with
  | ind u ih =>
    rw [Lib.decDigits]
    by_cases h : u < 10
    · rw [dif_pos h]
      intro c hc
      rw [List.mem_singleton] at hc
      subst hc
      rw [dig_nat h]
      omega
    · rw [dif_neg h]
      intro c hc
      rw [List.mem_append, List.mem_singleton] at hc
      rcases hc with hc | hc
      · exact ih (u / 10) (by omega) c hc
      · subst hc
        rw [dig_nat (by omega)]
        omega
theorem dd_ne (u : Nat) : Lib.decDigits u ≠ [] := by
  rw [Lib.decDigits]
  split <;> simp
theorem dd_inj (u : Nat) : ∀ v, Lib.decDigits u = Lib.decDigits v → u = v := by
  induction u using Nat.strongRecOn with
  | ind u ih =>
    intro v h
    rw [Lib.decDigits, Lib.decDigits.eq_1 v] at h
    by_cases hu : u < 10
    · by_cases hv : v < 10
      · rw [dif_pos hu, dif_pos hv] at h
        have e := congrArg UInt8.toNat (List.cons.inj h).1
        rw [dig_nat hu, dig_nat hv] at e
        omega
      · rw [dif_pos hu, dif_neg hv] at h
        have l := congrArg List.length h
        have := List.length_pos_iff.2 (dd_ne (v / 10))
        simp only [List.length_append, List.length_singleton] at l
        omega
    · by_cases hv : v < 10
      · rw [dif_neg hu, dif_pos hv] at h
        have l := congrArg List.length h
        have := List.length_pos_iff.2 (dd_ne (u / 10))
        simp only [List.length_append, List.length_singleton] at l
        omega
      · rw [dif_neg hu, dif_neg hv] at h
        obtain ⟨h1, h2⟩ := List.append_inj' h rfl
        have e := congrArg UInt8.toNat (List.cons.inj h2).1
        rw [dig_nat (by omega), dig_nat (by omega)] at e
        have := ih (u / 10) (by omega) (v / 10) h1
        omega
theorem itoa_nn {n : Int} (h : 0 ≤ n) : Lib.itoa n = Lib.decDigits n.toNat := by
  unfold Lib.itoa
  rw [if_neg (by omega)]
theorem itoa_inj {a b : Int} (ha : 0 ≤ a) (hb : 0 ≤ b) (h : Lib.itoa a = Lib.itoa b) : a = b := by
  rw [itoa_nn ha, itoa_nn hb] at h
  have := dd_inj _ _ h
  omega
theorem itoa_good {a : Int} (ha : 0 ≤ a) : ∀ c ∈ Lib.itoa a, goodB c := by
  rw [itoa_nn ha]
  exact fun c hc => .inr (.inl (dd_digit _ c hc))
theorem itoa_no32 {a : Int} (ha : 0 ≤ a) : (32 : UInt8) ∉ Lib.itoa a := by
  rw [itoa_nn ha]
  intro h
  have := dd_digit _ _ h
  simp at this
theorem cut32 : ∀ {xs ys r q : Bs}, (32 : UInt8) ∉ xs → (32 : UInt8) ∉ ys → xs ++ 32 :: r = ys ++ 32 :: q → xs = ys ∧ r = q
  | [], [], r, q, _, _, h => ⟨rfl, (List.cons.inj h).2⟩
  | [], y :: ys, r, q, _, hy, h => absurd (by rw [(List.cons.inj h).1]; exact List.mem_cons_self) hy
  | x :: xs, [], r, q, hx, _, h => absurd (by rw [← (List.cons.inj h).1]; exact List.mem_cons_self) hx
  | x :: xs, y :: ys, r, q, hx, hy, h => by
    obtain ⟨h1, h2⟩ := List.cons.inj h
    obtain ⟨h3, h4⟩ := cut32 (fun m => hx (List.mem_cons_of_mem _ m)) (fun m => hy (List.mem_cons_of_mem _ m)) h2
    exact ⟨by rw [h1, h3], h4⟩
theorem part_good {n : Int} (h : 0 ≤ n) : ∀ c ∈ partL n, goodB c := by
  unfold partL
  repeat' split
  all_goals first
    | decide
    | (intro c hc
       rw [List.mem_append] at hc
       rcases hc with hc | hc
       · revert c; decide
       · exact itoa_good (by omega) c hc)
theorem head_ne {a b : UInt8} {x y : Bs} (h : a ≠ b) : a :: x ≠ b :: y := fun e => h (List.cons.inj e).1
theorem part_inj {a b : Int} (ha : 0 ≤ a) (hb : 0 ≤ b) (h : partL a = partL b) : a = b := by
  unfold partL at h
  repeat' split at h
  all_goals first
    | omega
    | (exfalso; revert h; simp [bNext]; done)
    | (have := itoa_inj (a := a - 7) (b := b - 7) (by omega) (by omega) (List.append_cancel_left h); omega)
theorem name_good (k s p : Int) : ∀ c ∈ nameL k s p, goodB c := by
  unfold nameL
  repeat' split
  all_goals first
    | decide
    | (rename_i h
       intro c hc
       rw [List.mem_append] at hc
       rcases hc with hc | hc
       · revert c; decide
       · exact itoa_good h.2.2 c hc)
    | (rename_i h
       intro c hc
       rw [List.mem_append, List.mem_append, List.mem_cons] at hc
       rcases hc with (hc | hc) | hc | hc
       · revert c; decide
       · exact itoa_good (by omega) c hc
       · subst hc; decide
       · exact part_good h.2.2 c hc)
theorem name_cases {k s p : Int} (h : nameL k s p ≠ bNone) :
    (k = 1 ∧ s = 0 ∧ p = 0 ∧ nameL k s p = bEpoch) ∨ (k = 2 ∧ s = 0 ∧ p = 0 ∧ nameL k s p = bPool) ∨ (k = 3 ∧ s = 0 ∧ p = 0 ∧ nameL k s p = bFresh) ∨
    (k = 4 ∧ s = 0 ∧ 0 ≤ p ∧ nameL k s p = bRoot ++ Lib.itoa p) ∨ (k = 5 ∧ 1 ≤ s ∧ 0 ≤ p ∧ nameL k s p = bSlot ++ Lib.itoa s ++ 32 :: partL p) := by
  revert h
  unfold nameL
  repeat' split
  · rename_i h; exact fun _ => .inl ⟨h.1, h.2.1, h.2.2, rfl⟩
  · rename_i h; exact fun _ => .inr (.inl ⟨h.1, h.2.1, h.2.2, rfl⟩)
  · rename_i h; exact fun _ => .inr (.inr (.inl ⟨h.1, h.2.1, h.2.2, rfl⟩))
  · rename_i h; exact fun _ => .inr (.inr (.inr (.inl ⟨h.1, h.2.1, h.2.2, rfl⟩)))
  · rename_i h; exact fun _ => .inr (.inr (.inr (.inr ⟨h.1, h.2.1, h.2.2, rfl⟩)))
  · exact fun h => absurd rfl h
theorem name_inj {k s p k' s' p' : Int} (h1 : nameL k s p ≠ bNone) (h2 : nameL k' s' p' ≠ bNone) (h : nameL k s p = nameL k' s' p') : k = k' ∧ s = s' ∧ p = p' := by
  rcases name_cases h1 with ⟨a1, a2, a3, e⟩ | ⟨a1, a2, a3, e⟩ | ⟨a1, a2, a3, e⟩ | ⟨a1, a2, a3, e⟩ | ⟨a1, a2, a3, e⟩ <;>
  rcases name_cases h2 with ⟨b1, b2, b3, f⟩ | ⟨b1, b2, b3, f⟩ | ⟨b1, b2, b3, f⟩ | ⟨b1, b2, b3, f⟩ | ⟨b1, b2, b3, f⟩ <;>
  rw [e, f] at h
  all_goals first
    | exact ⟨by omega, by omega, by omega⟩
    | (exfalso; revert h; simp [bEpoch, bPool, bFresh, bRoot, bSlot]; done)
    | exact ⟨by omega, by omega, itoa_inj a3 b3 (List.append_cancel_left h)⟩
    | (rw [List.append_assoc, List.append_assoc] at h
       obtain ⟨h3, h4⟩ := cut32 (itoa_no32 (by omega)) (itoa_no32 (by omega)) (List.append_cancel_left h)
       exact ⟨by omega, itoa_inj (by omega) (by omega) h3, part_inj a3 b3 h4⟩)
theorem none_ne : bNone ≠ [] := by decide
end Go.Proofs.YtcncndhoeiaoeaaDoor.PPlaceNames

namespace Go.Proofs.YtcncndhoeiaoeaaDoor.PPlaceNames
open Go Go.RowKit Go.Proofs.YtcncndhoeiaoeaaDoorW.PrintWords Go.Proofs.YtcncndhoeiaoeaaDoorW.PrintLast Go.Proofs.YtcncndhoeiaoeaaDoorW.PrintMore Go.Proofs.YtcncndhoeiaoeaaDoor.U Go.Proofs.YtcncndhoeiaoeaaDoor.PPlaceExact
set_option linter.unusedVariables false
set_option linter.unusedSimpArgs false
def mkB (l : Bs) : ByteArray := ⟨l.toArray⟩
theorem mkB_app (a b : Bs) : mkB a ++ mkB b = mkB (a ++ b) := by
  apply ByteArray.ext
  rw [ByteArray.data_append]
  show a.toArray ++ b.toArray = (a ++ b).toArray
  simp
theorem mkB_size (a : Bs) : (mkB a).size = a.length := by
  show a.toArray.size = _
  simp
theorem mkB_toList (a : Bs) : (mkB a).toList = a := ByteArray.toList_mk a
theorem nd_le (u : Nat) : Lib.nDigits u ≤ u / 10 + 1 := by
  induction u using Nat.strongRecOn with
  | ind u ih =>
    rw [Lib.nDigits]
    by_cases h : u < 10
    · rw [dif_pos h]; omega
    · rw [dif_neg h]
      have := ih (u / 10) (by omega)
      omega
theorem itoa_len {n : Int} (h0 : 0 ≤ n) (h1 : n < 9223372036854775808) : (Lib.itoa n).length ≤ 922337203685477582 := by
  rw [itoa_nn h0, Lib.decDigits_length]
  have := nd_le n.toNat
  omega
theorem part_len {n : Int} (h0 : 0 ≤ n) (h1 : n < 9223372036854775808) : (partL n).length ≤ 922337203685477590 := by
  unfold partL
  repeat' split
  all_goals first
    | (simp; done)
    | (rw [List.length_append]
       have := itoa_len (n := n - 7) (by omega) (by omega)
       have e : bNext.length = 5 := rfl
       omega)
theorem part_f {n : Int} (h0 : 0 ≤ n) (h1 : n < 9223372036854775808) : place_part.f n = some (mkB (partL n)) := by
  unfold place_part.f partL
  by_cases c0 : n = 0
  · rw [if_pos c0, if_pos c0]; rfl
  rw [if_neg c0, if_neg c0]
  by_cases c1 : n = 1
  · rw [if_pos c1, if_pos c1]; rfl
  rw [if_neg c1, if_neg c1]
  by_cases c2 : n = 2
  · rw [if_pos c2, if_pos c2]; rfl
  rw [if_neg c2, if_neg c2]
  by_cases c3 : n = 3
  · rw [if_pos c3, if_pos c3]; rfl
  rw [if_neg c3, if_neg c3]
  by_cases c4 : n = 4
  · rw [if_pos c4, if_pos c4]; rfl
  rw [if_neg c4, if_neg c4]
  by_cases c5 : n = 5
  · rw [if_pos c5, if_pos c5]; rfl
  rw [if_neg c5, if_neg c5]
  by_cases c6 : n = 6
  · rw [if_pos c6, if_pos c6]; rfl
  rw [if_neg c6, if_neg c6]
  have hl := itoa_len (n := n - 7) (by omega) (by omega)
  rw [show wrap64 (n - 7) = n - 7 by unfold wrap64; omega]
  unfold itoaG.f
  rw [if_pos (wf_i64.2 (by omega)), bsome]
  rw [if_pos (by show 5 + (mkB (Lib.itoa (n - 7))).size ≤ _; rw [mkB_size]; omega)]
  exact congrArg some (mkB_app bNext (Lib.itoa (n - 7)))
theorem itoaG_f {n : Int} (h0 : 0 ≤ n) (h1 : n < 9223372036854775808) : itoaG.f n = some (mkB (Lib.itoa n)) := if_pos (wf_i64.2 (by omega))
theorem name_f {n : Nat} (hn : 3 ≤ n) (k s p : Int) (hk : (Lit.int .i64 k).wf = true) (hs : (Lit.int .i64 s).wf = true) (hp : (Lit.int .i64 p).wf = true) : place_Name.f n k s p = some (mkB (nameL k s p)) := by
  obtain ⟨n, rfl⟩ : ∃ q, n = q + 3 := ⟨n - 3, by omega⟩
  have hs := wf_i64.1 hs
  have hp := wf_i64.1 hp
  have e3 : ∀ i : Int, (k == i && (s == 0 && p == 0)) = true ↔ k = i ∧ s = 0 ∧ p = 0 := fun i => by simp
  have j1 : place_Name.j1 (n + 1) false k s p = some (mkB bNone) := by simp only [place_Name.j1, Bool.false_eq_true, if_false]; rfl
  have j1t : 1 ≤ s → 0 ≤ p → place_Name.j1 (n + 1) true k s p = some (mkB (bSlot ++ Lib.itoa s ++ 32 :: partL p)) := fun h1 h2 => by
    have l1 := itoa_len (n := s) (by omega) hs.2
    have l2 := part_len h2 hp.2
    have x1 : ((⟨#[115, 108, 111, 116, 32]⟩ : ByteArray) ++ mkB (Lib.itoa s)) = mkB (bSlot ++ Lib.itoa s) := mkB_app bSlot (Lib.itoa s)
    have x2 : (mkB (bSlot ++ Lib.itoa s) ++ (⟨#[32]⟩ : ByteArray)) = mkB (bSlot ++ Lib.itoa s ++ [32]) := mkB_app (bSlot ++ Lib.itoa s) [32]
    have e5 : bSlot.length = 5 := rfl
    simp only [place_Name.j1, if_true]
    rw [itoaG_f (by omega) hs.2, bsome, if_pos (by rw [mkB_size]; omega), x1, if_pos (by rw [mkB_size, List.length_append]; omega), part_f h2 hp.2, bsome, x2, if_pos (by rw [mkB_size, mkB_size, List.length_append, List.length_append, List.length_singleton]; omega), mkB_app]
    rw [List.append_assoc (bSlot ++ Lib.itoa s)]
    rfl
  have j0 : ¬ (k = 4 ∧ s = 0 ∧ 0 ≤ p) → place_Name.j0 (n + 2) false k s p = some (mkB (if k = 5 ∧ 1 ≤ s ∧ 0 ≤ p then bSlot ++ Lib.itoa s ++ 32 :: partL p else bNone)) := fun _ => by
    simp only [place_Name.j0, Bool.false_eq_true, if_false]
    by_cases c1 : k = 5
    · rw [if_pos c1]
      by_cases c2 : s ≥ 1
      · rw [if_pos c2]
        by_cases c3 : p ≥ 0
        · rw [if_pos ⟨c1, c2, c3⟩, show decide (p ≥ 0) = true from decide_eq_true c3]; exact j1t c2 c3
        · rw [if_neg (fun h => c3 h.2.2), show decide (p ≥ 0) = false from decide_eq_false c3]; exact j1
      · rw [if_neg c2, if_neg (fun h => c2 h.2.1)]; exact j1
    · rw [if_neg c1, if_neg (fun h => c1 h.1)]; exact j1
  have j0t : 0 ≤ p → place_Name.j0 (n + 2) true k s p = some (mkB (bRoot ++ Lib.itoa p)) := fun h => by
    have l1 := itoa_len h hp.2
    simp only [place_Name.j0, if_true]
    rw [itoaG_f h hp.2, bsome, if_pos (by rw [mkB_size]; omega)]
    exact congrArg some (mkB_app bRoot (Lib.itoa p))
  unfold place_Name.f place_Epoch.f place_Pool.f place_Fresh.f nameL
  simp only [bsome]
  by_cases c1 : k = 1 ∧ s = 0 ∧ p = 0
  · rw [if_pos ((e3 1).2 c1), if_pos c1]; rfl
  rw [if_neg (fun h => c1 ((e3 1).1 h)), if_neg c1]
  by_cases c2 : k = 2 ∧ s = 0 ∧ p = 0
  · rw [if_pos ((e3 2).2 c2), if_pos c2]; rfl
  rw [if_neg (fun h => c2 ((e3 2).1 h)), if_neg c2]
  by_cases c3 : k = 3 ∧ s = 0 ∧ p = 0
  · rw [if_pos ((e3 3).2 c3), if_pos c3]; rfl
  rw [if_neg (fun h => c3 ((e3 3).1 h)), if_neg c3]
  by_cases c4 : k = 4 ∧ s = 0 ∧ 0 ≤ p
  · rw [if_pos c4.1, if_pos c4.2.1, if_pos c4, show decide (p ≥ 0) = true from decide_eq_true c4.2.2]
    exact j0t c4.2.2
  · rw [if_neg c4]
    have z := j0 c4
    by_cases d1 : k = 4
    · rw [if_pos d1]
      by_cases d2 : s = 0
      · rw [if_pos d2, show decide (p ≥ 0) = false from decide_eq_false (fun h => c4 ⟨d1, d2, h⟩)]; exact z
      · rw [if_neg d2]; exact z
    · rw [if_neg d1]; exact z
theorem bt_mkB (l : Bs) (i : Nat) (h : i < l.length) : bt (mkB l) (i : Int) = (l[i].toNat : Int) := by
  unfold bt
  have h2 : (i : Int).toNat < (mkB l).size := by rw [mkB_size]; omega
  rw [dif_pos h2]
  rfl
theorem names_l (a b : Bs) (hg : ∀ c ∈ a, goodB c) (hl : a.length ≤ 4611686018427387904) (k s p k' s' p' : Int) : ∀ (d : Nat) (n : Nat) (i : Nat), a.length - i = d → i ≤ a.length → d < n →
    revenantlaw05_PlaceNames.l0 n (mkB a) (mkB b) (i : Int) k s p k' s' p' = if a = bNone then some true else if b = bNone then some true else some ((a == b) == (k == k' && (s == s' && (p == p')))) := by
  intro d
  induction d with
  | zero =>
    intro n i hd hi hn
    obtain ⟨n, rfl⟩ : ∃ m, n = m + 1 := ⟨n - 1, by omega⟩
    simp only [revenantlaw05_PlaceNames.l0]
    rw [if_neg (by rw [mkB_size]; omega), mkB_toList, mkB_toList]
    rfl
  | succ d ih =>
    intro n i hd hi hn
    obtain ⟨n, rfl⟩ : ∃ m, n = m + 1 := ⟨n - 1, by omega⟩
    have hi2 : i < a.length := by omega
    have ih' := ih n (i + 1) (by omega) (by omega) (by omega)
    have hw : wrap64 ((i : Int) + 1) = ((i + 1 : Nat) : Int) := by unfold wrap64; omega
    have hgd := hg a[i] (List.getElem_mem hi2)
    simp only [revenantlaw05_PlaceNames.l0]
    rw [if_pos (by rw [mkB_size]; omega), if_pos (by omega), bt_mkB a i hi2, hw, ih']
    rcases hgd with h | h | h
    · rw [if_pos (by omega)]
    · rw [if_neg (by omega), if_neg (by omega), if_neg (by omega)]
    · rw [if_neg (by omega), if_neg (by omega), if_pos (by omega), if_neg (by omega), if_neg (by omega)]
theorem name_len {k s p : Int} (hs : (Lit.int .i64 s).wf = true) (hp : (Lit.int .i64 p).wf = true) : (nameL k s p).length ≤ 4611686018427387904 := by
  have hs := wf_i64.1 hs
  have hp := wf_i64.1 hp
  unfold nameL
  repeat' split
  all_goals first
    | (simp [bEpoch, bPool, bFresh, bNone]; done)
    | (rename_i h
       have := itoa_len h.2.2 hp.2
       rw [List.length_append]
       have e : bRoot.length = 5 := rfl
       omega)
    | (rename_i h
       have := itoa_len (n := s) (by omega) hs.2
       have := part_len h.2.2 hp.2
       rw [List.length_append, List.length_append, List.length_cons]
       have e : bSlot.length = 5 := rfl
       omega)
theorem PlaceNamesT (k s p k' s' p' : Int) (g : (Lit.int .i64 k).wf = true ∧ (Lit.int .i64 s).wf = true ∧ (Lit.int .i64 p).wf = true) (g' : (Lit.int .i64 k').wf = true ∧ (Lit.int .i64 s').wf = true ∧ (Lit.int .i64 p').wf = true) : ∃ n, revenantlaw05_PlaceNames.f n k s p k' s' p' = some true := by
  refine ⟨(nameL k s p).length + 20, ?_⟩
  unfold revenantlaw05_PlaceNames.f
  rw [at_rounds (revenantlaw05_awake.mono) (show 20 ≤ (nameL k s p).length + 20 by omega) revenantlaw05_awake.one, bsome, if_pos rfl, name_f (by omega) k s p g.1 g.2.1 g.2.2, bsome, name_f (by omega) k' s' p' g'.1 g'.2.1 g'.2.2, bsome]
  have := names_l (nameL k s p) (nameL k' s' p') (name_good k s p) (name_len g.2.1 g.2.2) k s p k' s' p' (nameL k s p).length ((nameL k s p).length + 20) 0 (by omega) (by omega) (by omega)
  rw [show ((0 : Nat) : Int) = 0 from rfl] at this
  rw [this]
  by_cases h1 : nameL k s p = bNone
  · rw [if_pos h1]
  rw [if_neg h1]
  by_cases h2 : nameL k' s' p' = bNone
  · rw [if_pos h2]
  rw [if_neg h2]
  by_cases h : nameL k s p = nameL k' s' p'
  · obtain ⟨rfl, rfl, rfl⟩ := name_inj h1 h2 h
    simp
  · have e : (k == k' && (s == s' && p == p')) = false := by
      refine Bool.eq_false_iff.2 (fun e => h ?_)
      simp only [Bool.and_eq_true, beq_iff_eq] at e
      rw [e.1, e.2.1, e.2.2]
    rw [e, beq_eq_false_iff_ne.2 h]
    rfl
end Go.Proofs.YtcncndhoeiaoeaaDoor.PPlaceNames

namespace Go.Proofs.YtcncndhoeiaoeaaDoor.PPlaceNames
open Go Go.RowKit Go.Proofs.YtcncndhoeiaoeaaDoorW.PrintWords Go.Proofs.YtcncndhoeiaoeaaDoorW.PrintLast Go.Proofs.YtcncndhoeiaoeaaDoorW.PrintMore Go.Proofs.YtcncndhoeiaoeaaDoor.U Go.Proofs.YtcncndhoeiaoeaaDoor.PPlaceExact
/-- What the listed table says of a world. -/
theorem tabOf {W : World} (h : laidMetH Tryd.prog Rows.placeNamesRow.laid W) : TabW W := by
  rw [MakeChecks.laidMetH_plain _ _ _ (by kernel_rfl)] at h
  have h1 : laidMet Tryd.prog (_ :: _ :: _ :: []) W := h
  exact Lib.tabIs_of_head (zs := Lib.pow10Tab) (t := 119) (e := 71) (n := 20) gTab (by kernel_rfl) Tryd.underlying119 Tryd.underlying71 (by kernel_rfl) (by kernel_rfl) (laidMet.tail (laidMet.tail h1))
theorem revenantlaw05_PlaceNames.callsR (k : Nat) (a0_0 a0_1 a0_2 a1_0 a1_1 a1_2 : Int) (r : Bool) (w : World) (ht : TabW w) (h : revenantlaw05_PlaceNames.f k a0_0 a0_1 a0_2 a1_0 a1_1 a1_2 = some r) :
    Calls Tryd.prog 6 #[.agg #[.int .i64 a0_0, .int .i64 a0_1, .int .i64 a0_2], .agg #[.int .i64 a1_0, .int .i64 a1_1, .int .i64 a1_2]] w fun e w' => e = .returned (.bool r) ∧ Below w.heap.size w w' :=
  revenantlaw05_PlaceNames.calls k a0_0 a0_1 a0_2 a1_0 a1_1 a1_2 r w h ht (Below.refl _ _)
end Go.Proofs.YtcncndhoeiaoeaaDoor.PPlaceNames

