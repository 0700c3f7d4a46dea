import Derived.Lib.ItoaMem
import Derived.Lib.AppendIntMem
import Derived.Lib.ItoaNum
import Derived.WalkSmall
import Derived.Test.YtinmmnljicmppaaDoorVLay
import Derived.Test.YtinmmnljicmppaaDoorVPTaleApartx0
import Derived.Test.YtinmmnljicmppaaDoorVWMore
import Derived.Test.YtinmmnljicmppaaDoorVTaleStr
/-
A number's word and the way back.
-/
namespace Go.Proofs.YtinmmnljicmppaaDoor.PTaleApart
open Go Go.RowKit Go.Sort Go.Proofs.YtinmmnljicmppaaDoorW.PrintWords Go.Proofs.YtinmmnljicmppaaDoorW.PrintLast Go.Proofs.YtinmmnljicmppaaDoorW.PrintMore
set_option linter.unusedVariables false
set_option linter.unusedSimpArgs false
def TabW (w : World) : Prop := Lib.TabIs Tryd.prog w "internal/strconv.uint64pow10" .u64 Lib.pow10Tab
theorem gTab : Tryd.prog.globalNamed "internal/strconv.uint64pow10" = some 0 := by kernel_rfl
theorem TabW.below {w0 w : World} (h : TabW w0) (hb : Below w0.heap.size w0 w) : TabW w := by
 refine var?_below hb gTab ?_ h
 unfold TabW Lib.TabIs World.var? at h
 rw [gTab] at h
 simp only [Option.bind_some] at h
 refine Classical.byContradiction fun hg => ?_
 rw [Array.getElem?_eq_none (by omega)] at h
 cases h
set_option maxHeartbeats 4000000 in
set_option maxRecDepth 100000 in
theorem fmtU_in (u : Nat) (hu64 : u < 18446744073709551616) (w : World) (htab : TabW w) :
  Calls Tryd.prog 54 #[.int .u64 (u : Int), .int .i64 10] w fun e w' => e = .returned (.string ⟨(Lib.decDigits u).toArray⟩) ∧ Below w.heap.size w w' := by
 by_cases hs : u < 100
 ·have d1 : decide ((u : Int) < 100) = true := decide_eq_true (by omega)
  have d2 := eq_true (show (u : Int) < 100 by omega)
  have d3 := eq_true hs
  have hw1 : IntKind.i64.wrap (u : Int) = (u : Int) := by unfold IntKind.wrap IntKind.bits; simp [IntKind.signed]; omega
  have hw2 : wrap64 (u : Int) = (u : Int) := by unfold wrap64; omega
  have hsm := Tryd.internal_strconv_small u hs w
  clear hs
  go_enter Tryd.func54, Tryd.ntmps54
  go_wp2_with fail
  refine hsm.mono ?_
  rintro e w' ⟨rfl, rfl⟩
  go_wp2_with fail
  go_ret
  exact ⟨rfl, Below.refl _ _⟩
 ·have d1 : decide ((u : Int) < 100) = false := decide_eq_false (by omega)
  have d2 := eq_false (show ¬ (u : Int) < 100 by omega)
  have d3 := eq_false hs
  have hu1 : 1 ≤ u := by omega
  have hnd20 : Lib.nDigits u ≤ 20 := by have := Lib.numDigits_eq u hu1 hu64; split at this <;> omega
  have hal : Tryd.prog.arrayLen 106 = 24 := by kernel_rfl
  have hsl : ∀ W, (Instr.sliceAt 106 (.pointer (some ⟨w.heap.size, 0, none⟩)) none (some (.int .i64 (Lib.nDigits u : Int))) none).run Tryd.prog W = .ok (.slice (some ⟨w.heap.size, 0, none⟩) (Lib.nDigits u) 24) W := fun W => by
   rw [run_sliceAt_array_h W 106 ⟨w.heap.size, 0, none⟩ (by kernel_rfl) .i64 (Lib.nDigits u : Int) (by omega) (by rw [hal]; omega)]
   go_simp
  have hH0 := Lib.holds_zero0 w 106 (Lib.nDigits u) (by omega)
  have hfmt := Tryd.internal_strconv_formatBase10 w.heap.size 0 24 u (Array.replicate (Lib.nDigits u) 0) (w.alloc (.cells Lib.zeros24 106)) hH0 (by rw [Array.size_replicate]; exact Lib.lt_pow_nDigits u) hu64 (by rw [Array.size_replicate]; omega)
  rw [Array.size_replicate] at hfmt
  have HH0 := Lib.hid hH0
  clear hH0 hal
  have hnu := Tryd.internal_strconv_numDigits u hu1 hu64 (w.alloc (.cells Lib.zeros24 106)) (Lib.tabIs_alloc htab _)
  go_enter Tryd.func54, Tryd.ntmps54
  go_wp2_with fail
  refine hnu.mono ?_
  rintro e w' ⟨rfl, rfl⟩
  go_wp2_with fail
  refine hfmt.mono ?_
  rintro e w' ⟨rfl, k, v', dk, rfl, hF⟩
  have hcv : (convert 51 9 (.slice (some ⟨w.heap.size, 0, none⟩) (Lib.nDigits u) 24)).run Tryd.prog ((putRow (fun (b : UInt8) => Value.int .u8 (b.toNat : Int)) (w.alloc (.cells Lib.zeros24 106)) w.heap.size 0 dk).drewN k) = .ok (.string ⟨(Lib.decDigits u).toArray⟩) ((putRow (fun (b : UInt8) => Value.int .u8 (b.toNat : Int)) (w.alloc (.cells Lib.zeros24 106)) w.heap.size 0 dk).drewN k) := by
   have h := run_convert_bytes_back (P := Tryd.prog) ((putRow (fun (b : UInt8) => Value.int .u8 (b.toNat : Int)) (w.alloc (.cells Lib.zeros24 106)) w.heap.size 0 dk).drewN k) 51 9 5 ⟨w.heap.size, 0, none⟩ 24 (Lib.decDigits u) Tryd.underlying51 Tryd.underlying5 Tryd.underlying9 (fun j hj => by
    rw [Lib.row_is_numeral hF j hj, Lib.add_plain, World.cell?_drewN]
    exact cell?_putRow (fun (b : UInt8) => Value.int .u8 (b.toNat : Int)) _ w.heap.size 0 _ dk HH0.out (by rw [hF.size, Array.size_replicate]) j (by rw [hF.size]; rw [Lib.decDigits_length] at hj; exact hj))
   rw [Lib.decDigits_length] at h
   exact h
  obtain ⟨os, eo⟩ := Lib.fin_at w (.cells Lib.zeros24 106) dk k 0
  have hbel : Below w.heap.size w ((putRow (fun (b : UInt8) => Value.int .u8 (b.toNat : Int)) (w.alloc (.cells Lib.zeros24 106)) w.heap.size 0 dk).drewN k) := by
   rw [eo]; exact Lib.below_grow _ _ (Nat.le_refl _) k os
  have HB := Aside0.mk hbel
  clear hF HH0 eo hbel
  go_wp2_with fail
  go_ret
  exact ⟨rfl, HB.out⟩
theorem num_T (u : Nat) (hu : u < 18446744073709551616) (w : World) (ht : TabW w) : Calls Tryd.prog 18 #[.int .u64 (u : Int)] w fun e w' => e = .returned (.string ⟨(Lib.decDigits u).toArray⟩) ∧ Below w.heap.size w w' := by
 have h := fmtU_in u hu w ht
 have h2 : Calls Tryd.prog 34 #[.int .u64 (u : Int), .int .i64 10] w fun e w' => e = .returned (.string ⟨(Lib.decDigits u).toArray⟩) ∧ Below w.heap.size w w' := by
  go_enter Tryd.func34, Tryd.ntmps34
  go_wp2_with fail
  refine h.mono ?_
  rintro e w' ⟨rfl, hb⟩
  have HB := Aside0.mk hb
  clear hb
  go_wp2_with fail
  go_ret
  exact ⟨rfl, HB.out⟩
 go_enter Tryd.func18, Tryd.ntmps18
 go_wp2_with fail
 refine h2.mono ?_
 rintro e w' ⟨rfl, hb⟩
 have HB := Aside0.mk hb
 clear hb
 go_wp2_with fail
 go_ret
 exact ⟨rfl, HB.out⟩
end Go.Proofs.YtinmmnljicmppaaDoor.PTaleApart
namespace Go.Proofs.YtinmmnljicmppaaDoor.PTaleApart
open Go Go.RowKit Go.Proofs.YtinmmnljicmppaaDoorW.PrintWords Go.Proofs.YtinmmnljicmppaaDoorW.PrintLast Go.Proofs.YtinmmnljicmppaaDoorW.PrintMore Go.Proofs.YtinmmnljicmppaaDoor.Str
set_option linter.unusedVariables false
set_option linter.unusedSimpArgs false
def WT (w : World) : Prop := TabW w ∧ (∃ m, w.cell? ⟨1, 0, none⟩ = some (.int .i64 m)) ∧ (∃ te pe, w.cell? ⟨2, 0, none⟩ = some (.iface te pe)) ∧ (∃ te pe, w.cell? ⟨3, 0, none⟩ = some (.iface te pe))
theorem cell_below {w0 w : World} {g : Nat} {v : Value} (h : w0.cell? ⟨g, 0, none⟩ = some v) (hb : Below w0.heap.size w0 w) : w.cell? ⟨g, 0, none⟩ = some v :=
 (hb.cell (show (⟨g, 0, none⟩ : Addr).block < w0.heap.size from Lib.lt_of_cell h)).trans h
theorem WT.below {w0 w : World} (h : WT w0) (hb : Below w0.heap.size w0 w) : WT w := by
 obtain ⟨h1, ⟨m, h2⟩, ⟨t3, p3, h3⟩, ⟨t4, p4, h4⟩⟩ := h
 exact ⟨h1.below hb, ⟨m, cell_below h2 hb⟩, ⟨t3, p3, cell_below h3 hb⟩, ⟨t4, p4, cell_below h4 hb⟩⟩
theorem bytesWorld_below' (w : World) (t : TypeId) (s : ByteArray) (w' : World) (h : w' = w ∨ w' = Lib.bytesWorld w t s) : Below w.heap.size w w' := by
 rcases h with rfl | rfl
 ·exact Below.refl _ _
 ·exact Lib.bytesWorld_below _ _ _
theorem ba_eq {l : List UInt8} {s : ByteArray} : (⟨l.toArray⟩ : ByteArray) = s ↔ l = s.data.toList := by
 constructor
 ·rintro rfl; rfl
 ·intro h; rw [h]
set_option maxHeartbeats 4000000 in
set_option maxRecDepth 100000 in
theorem number_T (s : ByteArray) (hs : s.size ≤ 281474976710656) (w : World) (h : WT w) :
  Calls Tryd.prog 28 #[.string s] w fun e w' => e = .returned (.tuple #[.int .u64 ((numP s.data.toList).1 : Int), .bool (numP s.data.toList).2]) ∧ Below w.heap.size w w' := by
 have HW := Aside0.mk h
 obtain ⟨h1, ⟨m, h2⟩, ⟨t3, p3, h3⟩, ⟨t4, p4, h4⟩⟩ := h
 unfold numP
 cases hp : Lib.parseUintB 64 s.data.toList with
 | ok u =>
  have hu : u < 18446744073709551616 := by
   have := numP_lt s.data.toList
   unfold numP at this
   rw [hp] at this
   exact this
  have hc := Tryd.strconv_ParseUint_10_at64_ok s (by omega) u hp w
  have hnum : ∀ w1, TabW w1 → Calls Tryd.prog 18 #[.int .u64 (u : Int)] w1 fun e w' => e = .returned (.string ⟨(Lib.decDigits u).toArray⟩) ∧ Below w1.heap.size w1 w' := fun w1 ht => num_T u hu w1 ht
  obtain ⟨z, hz⟩ : ∃ z, decide (Lib.decDigits u = s.data.toList) = z := ⟨_, rfl⟩
  have hd : decide ((⟨(Lib.decDigits u).toArray⟩ : ByteArray) = s) = z := by rw [← hz]; exact decide_eq_decide.2 ba_eq
  show Calls _ _ _ _ fun e w' => e = .returned (.tuple #[.int .u64 (u : Int), .bool (decide (Lib.decDigits u = s.data.toList))]) ∧ _
  rw [hz]
  have he : ((⟨(Lib.decDigits u).toArray⟩ : ByteArray).toList == s.toList) = z := by rw [ByteArray.toList_eq, ByteArray.toList_eq, ← hz]; exact Bool.eq_iff_iff.2 (by simp)
  generalize (⟨(Lib.decDigits u).toArray⟩ : ByteArray) = r at hd he hnum
  clear hz h1 h2 h3 h4 hu hp
  go_enter Tryd.func28, Tryd.ntmps28
  go_wp2_with fail
  refine hc.mono ?_
  rintro e w1 ⟨rfl, hb⟩
  have HB := Aside0.mk (bytesWorld_below' _ _ _ _ hb)
  clear hb hc
  go_wp2_with fail
  refine (hnum w1 (HW.out.below HB.out).1).mono ?_
  rintro e w2 ⟨rfl, hb⟩
  have HB2 := Aside0.mk (below_step HB.out hb)
  clear hb HB hnum
  cases z
  ·have hne : ¬ r = s := of_decide_eq_false hd
   have hne2 := eq_false hne
   clear hne
   go_wp2_with fail
   go_ret2
   exact ⟨rfl, HB2.out⟩
  ·have hne : r = s := of_decide_eq_true hd
   subst hne
   clear hd he
   go_wp2_with fail
   go_ret2
   exact ⟨rfl, HB2.out⟩
 | «syntax» =>
  have hc := Tryd.strconv_ParseUint_10_at64_syntax s hs hp (.iface t3 p3) w h3 (.inr ⟨t3, p3, rfl⟩)
  clear h1 h2 h3 h4 hp
  go_enter Tryd.func28, Tryd.ntmps28
  go_wp2_with fail
  refine hc.mono ?_
  rintro e w1 ⟨N, rfl, -, -, hb⟩
  have HB := Aside0.mk hb
  clear hb hc
  go_wp2_with fail
  go_ret2
  exact ⟨rfl, HB.out⟩
 | range =>
  have hc := Tryd.strconv_ParseUint_10_at64_range s hs hp (.iface t4 p4) w h4 (.inr ⟨t4, p4, rfl⟩)
  clear h1 h2 h3 h4 hp
  go_enter Tryd.func28, Tryd.ntmps28
  go_wp2_with fail
  refine hc.mono ?_
  rintro e w1 ⟨N, rfl, -, -, hb⟩
  have HB := Aside0.mk hb
  clear hb hc
  go_wp2_with fail
  go_ret2
  exact ⟨rfl, HB.out⟩
end Go.Proofs.YtinmmnljicmppaaDoor.PTaleApart
