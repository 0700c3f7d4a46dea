/-
strconv.Itoa of every int, in the words of the printed texts.
-/
import Derived.WalkSmall
import Derived.Lib.AppendIntMem
import Derived.Test.YtcncndhoeiaoeaaDoorItoa
import Derived.Test.YtcncndhoeiaoeaaDoorPTallyExactx0
import Derived.Test.YtcncndhoeiaoeaaDoorWords
namespace Go.Proofs.YtcncndhoeiaoeaaDoor.PTallyExact
open Go Go.RowKit Go.Proofs.YtcncndhoeiaoeaaDoorW.PrintWords Go.Proofs.YtcncndhoeiaoeaaDoorW.PrintLast Go.Proofs.YtcncndhoeiaoeaaDoorW.PrintMore
/-- The library's table of powers of ten, as it is laid. -/
def TabW (w : World) : Prop := Lib.TabIs Tryd.prog w "internal/strconv.uint64pow10" .u64 Lib.pow10Tab
theorem gTab : Tryd.prog.globalNamed "internal/strconv.uint64pow10" = some 0 := by kernel_rfl
theorem TabW.below {w0 w : World} (h : TabW w0) (hb : Below w0.heap.size w0 w) : TabW w := by
  refine var?_below hb gTab ?_ h
  unfold TabW Lib.TabIs World.var? at h
  rw [gTab] at h
  simp only [Option.bind_some] at h
  by_cases hg : 0 < w0.heap.size
  · exact hg
  · rw [Array.getElem?_eq_none (by omega)] at h
    cases h
/-- strconv.Itoa of every int. -/
def itoaG.f (a0 : Int) : Option ByteArray := if (Lit.int .i64 a0).wf = true then some ⟨(Lib.itoa a0).toArray⟩ else none
theorem wf_i64b {x : Int} (h : (Lit.int .i64 x).wf = true) : -9223372036854775808 ≤ x ∧ x ≤ 9223372036854775807 := by
  have := U.wf_i64.1 h
  omega
theorem itoaG.calls (a0 : Int) (r : ByteArray) (w : World) (h : itoaG.f a0 = some r) {w0 : World} (ht0 : TabW w0) (hb0 : Below w0.heap.size w0 w) :
    Calls Tryd.prog 40 #[.int .i64 a0] w fun e w' => e = .returned (.string r) ∧ Below w.heap.size w w' := by
  unfold itoaG.f at h
  by_cases hw : (Lit.int .i64 a0).wf = true
  · rw [if_pos hw] at h
    obtain rfl := Option.some.inj h
    obtain ⟨h0, h1⟩ := wf_i64b hw
    refine (Tryd.strconv_Itoa a0 h0 h1 w (ht0.below hb0)).mono ?_
    rintro e w' ⟨rfl, k, os, rfl⟩
    exact ⟨rfl, Lib.below_grow _ _ (Nat.le_refl _) k os⟩
  · rw [if_neg hw] at h
    cases h
end Go.Proofs.YtcncndhoeiaoeaaDoor.PTallyExact

