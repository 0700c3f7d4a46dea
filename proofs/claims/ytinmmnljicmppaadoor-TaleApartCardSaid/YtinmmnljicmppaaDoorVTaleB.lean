import Derived.Test.YtinmmnljicmppaaDoorVTaleA
import Derived.Test.YtinmmnljicmppaaDoorVWords
/-
The library's functions that the package calls, in the words of the printed texts.
-/
namespace Go.Proofs.YtinmmnljicmppaaDoor.PTaleApart
open Go Go.RowKit Go.Proofs.YtinmmnljicmppaaDoorW.PrintWords Go.Proofs.YtinmmnljicmppaaDoorW.PrintLast Go.Proofs.YtinmmnljicmppaaDoorW.PrintMore Go.Proofs.YtinmmnljicmppaaDoor.Str
attribute [local go_sem] max2_int min2_int max_two min_two max_three min_three max_four min_four
set_option linter.unusedVariables false
set_option linter.unusedSimpArgs false
theorem wf_u64b {x : Int} (h : (Lit.int .u64 x).wf = true) : 0 ≤ x ∧ x < 18446744073709551616 := by
 have := U.wf_u64.1 h
 omega
theorem wf_i64b {x : Int} (h : (Lit.int .i64 x).wf = true) : -9223372036854775808 ≤ x ∧ x ≤ 9223372036854775807 := by
 have := U.wf_i64.1 h
 omega
def itoaG.f (a0 : Int) : Option ByteArray := if (Lit.int .i64 a0).wf = true then some ⟨(Lib.itoa a0).toArray⟩ else none
theorem itoaG.calls (a0 : Int) (r : ByteArray) (w : World) (h : itoaG.f a0 = some r) {w0 : World} (ht0 : WT w0) (hb0 : Below w0.heap.size w0 w) :
  Calls Tryd.prog 17 #[.int .i64 a0] w fun e w' => e = .returned (.string r) ∧ Below w.heap.size w w' := by
 unfold itoaG.f at h
 by_cases hw : (Lit.int .i64 a0).wf = true
 ·rw [if_pos hw] at h
  obtain rfl := Option.some.inj h
  obtain ⟨h0, h1⟩ := wf_i64b hw
  refine (Tryd.strconv_Itoa a0 h0 h1 w (ht0.below hb0).1).mono ?_
  rintro e w' ⟨rfl, k, os, rfl⟩
  exact ⟨rfl, Lib.below_grow _ _ (Nat.le_refl _) k os⟩
 ·rw [if_neg hw] at h
  cases h
def tale_num.f (a0 : Int) : Option ByteArray := if (Lit.int .u64 a0).wf = true then some ⟨(Lib.decDigits a0.toNat).toArray⟩ else none
theorem tale_num.calls (a0 : Int) (r : ByteArray) (w : World) (h : tale_num.f a0 = some r) {w0 : World} (ht0 : WT w0) (hb0 : Below w0.heap.size w0 w) :
  Calls Tryd.prog 18 #[.int .u64 a0] w fun e w' => e = .returned (.string r) ∧ Below w.heap.size w w' := by
 unfold tale_num.f at h
 by_cases hw : (Lit.int .u64 a0).wf = true
 ·rw [if_pos hw] at h
  obtain rfl := Option.some.inj h
  obtain ⟨h0, h1⟩ := wf_u64b hw
  have := num_T a0.toNat (by omega) w (ht0.below hb0).1
  rw [show ((a0.toNat : Nat) : Int) = a0 by omega] at this
  exact this
 ·rw [if_neg hw] at h
  cases h
def tale_number.f (s : ByteArray) : Option (Int × Bool) := if s.size ≤ 281474976710656 then some (((numP s.data.toList).1 : Int), (numP s.data.toList).2) else none
theorem tale_number.calls (a0 : ByteArray) (r1 : Int) (r2 : Bool) (w : World) (h : tale_number.f a0 = some (r1, r2)) {w0 : World} (ht0 : WT w0) (hb0 : Below w0.heap.size w0 w) :
  Calls Tryd.prog 28 #[.string a0] w fun e w' => e = .returned (.tuple #[.int .u64 r1, .bool r2]) ∧ Below w.heap.size w w' := by
 unfold tale_number.f at h
 by_cases hw : a0.size ≤ 281474976710656
 ·rw [if_pos hw] at h
  have h2 := Option.some.inj h
  injection h2 with h3 h4
  subst h3 h4
  exact number_T a0 hw w (ht0.below hb0)
 ·rw [if_neg hw] at h
  cases h
def smallP (l : List UInt8) : Int := if (numP l).2 = true then ((min (numP l).1 4611686018427387904 : Nat) : Int) else -1
def tale_small.f (s : ByteArray) : Option Int := if s.size ≤ 281474976710656 then some (smallP s.data.toList) else none
set_option maxHeartbeats 4000000 in
set_option maxRecDepth 100000 in
theorem tale_small.calls (a0 : ByteArray) (r : Int) (w : World) (h : tale_small.f a0 = some r) {w0 : World} (ht0 : WT w0) (hb0 : Below w0.heap.size w0 w) :
  Calls Tryd.prog 29 #[.string a0] w fun e w' => e = .returned (.int .i64 r) ∧ Below w.heap.size w w' := by
 unfold tale_small.f at h
 by_cases hw : a0.size ≤ 281474976710656
 ·rw [if_pos hw] at h
  obtain rfl := Option.some.inj h
  have hc := number_T a0 hw w (ht0.below hb0)
  unfold smallP
  generalize (numP a0.data.toList).2 = z at hc ⊢
  generalize (numP a0.data.toList).1 = n at hc ⊢
  clear h hw ht0 hb0
  cases z
  ·rw [if_neg (by decide)]
   go_enter Tryd.func29, Tryd.ntmps29
   go_wp2_with fail
   refine hc.mono ?_
   rintro e w1 ⟨rfl, hb⟩
   have HB := Aside0.mk hb
   clear hb hc
   go_wp2_with fail
   go_ret
   exact ⟨rfl, HB.out⟩
  ·rw [if_pos rfl]
   obtain ⟨m, hm⟩ : ∃ m : Nat, m = min n 4611686018427387904 := ⟨_, rfl⟩
   rw [← hm]
   have hw1 : ∀ k : Int, 0 ≤ k → k ≤ 4611686018427387904 → IntKind.i64.wrap k = k := fun k h0 h1 => by unfold IntKind.wrap IntKind.bits; simp [IntKind.signed]; omega
   have hw2 : ∀ k : Int, 0 ≤ k → k ≤ 4611686018427387904 → wrap64 k = k := fun k h0 h1 => by unfold wrap64; omega
   have HW1 := Aside0.mk hw1
   have HW2 := Aside0.mk hw2
   have HM := Aside0.mk hm
   clear hm hw1 hw2
   go_enter Tryd.func29, Tryd.ntmps29
   go_wp2_with fail
   refine hc.mono ?_
   rintro e w1 ⟨rfl, hb⟩
   have HB := Aside0.mk hb
   clear hb hc
   go_wp2_with fail
   ·have hM := HM.out
    obtain rfl : m = 4611686018427387904 := by omega
    clear hM
    go_ret
    exact ⟨rfl, HB.out⟩
   ·have hM := HM.out
    obtain rfl : m = n := by omega
    clear hM
    go_ret
    exact ⟨rfl, HB.out⟩
 ·rw [if_neg hw] at h
  cases h
theorem R_strings {W W1 : World} {xs : List ByteArray} {c : Nat} (hc : xs.length ≤ 9223372036854775807) (hn : c = xs.length) (h : W1 = W.alloc (.cells (xs.map Value.string).toArray 9)) : Kd.R Kd.string 9 W1 W.heap.size (fun _ => True) (.slice (some ⟨W.heap.size, 0, none⟩) c c) xs := by
 subst hn h
 refine ⟨fun _ _ => trivial, xs.map Value.string, ?_, ⟨by simp [Kd.string, Kd.scalar], fun j p hj => ?_⟩⟩
 ·have h2 := World.ownsRow_lit (base := W.heap.size) (e := 9) (size := 1) W (xs.map Value.string).toArray xs.length (Nat.le_refl _) (by simpa [maxLen] using hc) (by simp)
  simp only [Kd.string, Kd.scalar]
  simpa using h2
 ·have hj2 : (xs.map Value.string)[j]? = some (.string p) := by rw [List.getElem?_map, hj]; rfl
  show ((xs.map Value.string).drop (j * 1)).take 1 = [.string p]
  obtain ⟨hlt, e⟩ := List.getElem?_eq_some_iff.1 hj2
  rw [Nat.mul_one, List.drop_eq_getElem_cons hlt, e]
  rfl
def strings_Split.f (s sep : ByteArray) : Option (List ByteArray) := if s.size < 4294967281 ∧ 1 ≤ sep.size then some (Lib.splitB sep 0 (Lib.countB s sep) s) else none
theorem strings_Split.calls (a0 a1 : ByteArray) (r : List ByteArray) (w : World) (h : strings_Split.f a0 a1 = some r) {w0 : World} (ht0 : WT w0) (hb0 : Below w0.heap.size w0 w) :
  Calls Tryd.prog 26 #[.string a0, .string a1] w fun e w' => ∃ v0_ : Value, e = .returned (v0_) ∧ Kd.R Kd.string 9 w' w.heap.size (fun _ => True) v0_ r ∧ Below w.heap.size w w' := by
 unfold strings_Split.f at h
 by_cases hw : a0.size < 4294967281 ∧ 1 ≤ a1.size
 ·rw [if_pos hw] at h
  obtain rfl := Option.some.inj h
  obtain ⟨m, hm⟩ := (ht0.below hb0).2.1
  refine (Tryd.strings_Split a0 a1 m w hw.1 hm hw.2).mono ?_
  rintro e w' ⟨rfl, rfl⟩
  have hl := Lib.splitB_all a1 hw.2 0 _ a0 rfl
  have hcl := Lib.countB_le a1 hw.2 a0.size a0 (Nat.le_refl _)
  exact ⟨_, rfl, R_strings (by omega) hl.symm rfl, below_alloc (Below.refl _ _) _⟩
 ·rw [if_neg hw] at h
  cases h
def strings_Cut.f (s sep : ByteArray) : Option (ByteArray × ByteArray × Bool) := if s.size < 4294967281 then some (⟨(Lib.cut s.data.toList sep.data.toList).1.toArray⟩, ⟨(Lib.cut s.data.toList sep.data.toList).2.1.toArray⟩, (Lib.cut s.data.toList sep.data.toList).2.2) else none
theorem strings_Cut.calls (a0 a1 : ByteArray) (r1 r2 : ByteArray) (r3 : Bool) (w : World) (h : strings_Cut.f a0 a1 = some (r1, r2, r3)) {w0 : World} (ht0 : WT w0) (hb0 : Below w0.heap.size w0 w) :
  Calls Tryd.prog 43 #[.string a0, .string a1] w fun e w' => e = .returned (.tuple #[.string r1, .string r2, .bool r3]) ∧ Below w.heap.size w w' := by
 unfold strings_Cut.f at h
 by_cases hw : a0.size < 4294967281
 ·rw [if_pos hw] at h
  have h2 := Option.some.inj h
  injection h2 with h3 h4
  injection h4 with h4 h5
  subst h3 h4 h5
  obtain ⟨m, hm⟩ := (ht0.below hb0).2.1
  refine (Tryd.strings_Cut a0 a1 m w hw hm).mono ?_
  rintro e w' ⟨rfl, n, rfl⟩
  exact ⟨rfl, pw_below_drewN (Below.refl _ _) _⟩
 ·rw [if_neg hw] at h
  cases h
end Go.Proofs.YtinmmnljicmppaaDoor.PTaleApart
namespace Go.Proofs.YtinmmnljicmppaaDoor.PTaleApart
open Go Go.RowKit Go.Proofs.YtinmmnljicmppaaDoorW.PrintWords Go.Proofs.YtinmmnljicmppaaDoorW.PrintLast Go.Proofs.YtinmmnljicmppaaDoorW.PrintMore Go.Proofs.YtinmmnljicmppaaDoor.Str
set_option linter.unusedVariables false
set_option linter.unusedSimpArgs false
theorem add_pl (b o j : Nat) : (⟨b, o, none⟩ : Addr).add j = ⟨b, o + j, none⟩ := by unfold Addr.add; split <;> simp [*]
theorem C_addr {α : Type} {enc : α → Value} {h1 : ∀ x, (enc x).oneCell' = true} {w : World} {A : Option Addr} {xs : List α} (h : Kd.C (Kd.scalar enc h1) w A xs.length xs) (hx : 0 < xs.length) : ∃ b o, A = some ⟨b, o, none⟩ ∧ b < w.heap.size ∧ ∀ (j : Nat) x, xs[j]? = some x → w.cell? ⟨b, o + j, none⟩ = some (enc x) := by
 obtain ⟨ad, rfl, hc⟩ := h.2.2 hx
 have hall : ∀ (j : Nat) x, xs[j]? = some x → w.cell? (ad.add j) = some (enc x) := by
  intro j x hj
  obtain ⟨cs, _, hK, h2⟩ := hc j x hj
  have hK2 : cs = [enc x] := hK
  subst hK2
  have h3 : w.cell? (ad.add (j * 1 + 0)) = some (enc x) := h2 0 _ rfl
  rw [Nat.mul_one, Nat.add_zero] at h3
  exact h3
 obtain ⟨x0, hx0⟩ : ∃ x, xs[0]? = some x := ⟨_, List.getElem?_eq_getElem hx⟩
 have h0 := hall 0 x0 hx0
 obtain ⟨b, o, sp⟩ := ad
 have h00 : w.cell? ⟨b, o, sp⟩ = some (enc x0) := h0
 have hb : b < w.heap.size := Lib.lt_of_cell h00
 have hsp : sp = none := by
  cases sp with
  | none => rfl
  | some q =>
   exfalso
   unfold World.cell? at h00
   split at h00 <;> simp at h00
 subst hsp
 exact ⟨b, o, rfl, hb, fun j x hj => by rw [← add_pl]; exact hall j x hj⟩
def tale_join.f (l : List ByteArray) : Option ByteArray := if l.length ≤ 140737488355328 ∧ (Lib.join (l.map (·.data.toList)) [32]).length ≤ 140737488355328 then some ⟨(Lib.join (l.map (·.data.toList)) [32]).toArray⟩ else none
set_option maxHeartbeats 4000000 in
set_option maxRecDepth 100000 in
theorem tale_join.calls (A0 : Option Addr) (c0 : Nat) (l0 : List ByteArray) (r : ByteArray) (w : World) (hr0 : Kd.C Kd.string w A0 l0.length l0) (hc0 : l0.length ≤ c0) (h : tale_join.f l0 = some r) :
  Calls Tryd.prog 16 #[.slice A0 l0.length c0] w fun e w' => e = .returned (.string r) ∧ Below w.heap.size w w' := by
 unfold tale_join.f at h
 by_cases hw : l0.length ≤ 140737488355328 ∧ (Lib.join (l0.map (·.data.toList)) [32]).length ≤ 140737488355328
 ·rw [if_pos hw] at h
  obtain rfl := Option.some.inj h
  have hj : Calls Tryd.prog 32 #[.slice A0 l0.length c0, .string ⟨#[32]⟩] w fun e w' => e = .returned (.string ⟨(Lib.join (l0.map (·.data.toList)) [32]).toArray⟩) ∧ Below w.heap.size w w' := by
   by_cases h0 : 0 < l0.length
   ·obtain ⟨b, o, rfl, hb, hcell⟩ := C_addr hr0 h0
    exact Tryd.strings_Join b o c0 l0 ⟨#[32]⟩ w hcell hb hw.1 hc0 hw.2
   ·have : l0 = [] := List.eq_nil_of_length_eq_zero (by omega)
    subst this
    refine (Tryd.strings_Join_none A0 c0 ⟨#[32]⟩ w).mono ?_
    rintro e w' ⟨rfl, rfl⟩
    exact ⟨rfl, Below.refl _ _⟩
  generalize (⟨(Lib.join (l0.map (·.data.toList)) [32]).toArray⟩ : ByteArray) = r at hj
  generalize l0.length = n at hj
  clear hw h hr0 hc0
  go_enter Tryd.func16, Tryd.ntmps16
  go_wp2_with fail
  refine hj.mono ?_
  rintro e w1 ⟨rfl, hb⟩
  have HB := Aside0.mk hb
  clear hb hj
  go_wp2_with fail
  go_ret
  exact ⟨rfl, HB.out⟩
 ·rw [if_neg hw] at h
  cases h
def slices_Max.f (l : List Int) : Option Int := if 0 < l.length ∧ l.length ≤ 9223372036854775807 then some (Lib.maxOf l) else none
theorem slices_Max.calls (A0 : Option Addr) (c0 : Nat) (l0 : List Int) (r : Int) (w : World) (hr0 : Kd.C (Kd.int .i64) w A0 l0.length l0) (hc0 : l0.length ≤ c0) (h : slices_Max.f l0 = some r) :
  Calls Tryd.prog 47 #[.slice A0 l0.length c0] w fun e w' => e = .returned (.int .i64 r) ∧ Below w.heap.size w w' := by
 unfold slices_Max.f at h
 by_cases hw : 0 < l0.length ∧ l0.length ≤ 9223372036854775807
 ·rw [if_pos hw] at h
  obtain rfl := Option.some.inj h
  obtain ⟨b, o, rfl, hb, hcell⟩ := C_addr (enc := Value.int .i64) (h1 := fun _ => rfl) hr0 hw.1
  have := Tryd.slices_Max_int b o l0.length c0 l0 w hw.1 (Nat.le_refl _) hw.2 (fun j hj => by
   rw [hcell j _ (List.getElem?_eq_getElem hj), List.getD_eq_getElem?_getD, List.getElem?_eq_getElem hj]; rfl)
  rw [List.take_length] at this
  refine this.mono ?_
  rintro e w' ⟨rfl, rfl⟩
  exact ⟨rfl, Below.refl _ _⟩
 ·rw [if_neg hw] at h
  cases h
end Go.Proofs.YtinmmnljicmppaaDoor.PTaleApart
