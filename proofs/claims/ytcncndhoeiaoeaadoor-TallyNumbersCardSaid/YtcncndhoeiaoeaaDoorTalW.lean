/-
The law TallyNumbers, as its row asks for it.
-/
import Derived.LaidMore
import Derived.Lib.LaidTab
import Derived.Stop.LaidErr
import Derived.ProofKit
import Derived.OpenShut
import Derived.Test.YtcncndhoeiaoeaaDoorTalV
import Derived.Test.YtcncndhoeiaoeaaDoorRows
namespace Go.Proofs.YtcncndhoeiaoeaaDoor.PTallyExact
open Go Go.RowKit Go.Proofs.YtcncndhoeiaoeaaDoorW.PrintWords Go.Proofs.YtcncndhoeiaoeaaDoorW.PrintLast Go.Proofs.YtcncndhoeiaoeaaDoorW.PrintMore Go.Proofs.YtcncndhoeiaoeaaDoor.U
set_option linter.unusedVariables false
/-- What reads as data of type t is a row of n numbers, each of which is an int. -/
def IntsAt (P : Program) (t : TypeId) (n : Nat) : Prop :=
  ∀ (H : Type) (enc : TypeId × Value → H) (w : World) (fuel : Nat) (cs : List Value) (x : DataW H × List MemPlace),
    DataW.trod enc P w 0 (fun _ => true) true fuel t cs = some x → ∃ l : List Int, l.length = n ∧ cs = l.map (fun y => Value.int .i64 y) ∧ Ints l
theorem ints_int {P : Program} {t : TypeId} (ht : P.underlying t = some (.int .i64)) : IntsAt P t 1 := by
  intro H enc w fuel cs x h
  obtain ⟨n, e, _, hw⟩ := DataW.trod_int ht h
  have h2 := U.wf_i64.1 hw
  exact ⟨[n], rfl, e, fun y hy => by obtain rfl := List.mem_singleton.1 hy; omega⟩
theorem ints_app {l m : List Int} (hl : Ints l) (hm : Ints m) : Ints (l ++ m) := fun x hx => (List.mem_append.1 hx).elim (hl x) (hm x)
theorem ints_arr {P : Program} {t e : TypeId} {n m : Nat} (ht : P.underlying t = some (.array n e)) (hce : P.cellsOf e = m) (hct : P.cellsOf t = n * m) (he : IntsAt P e m) : IntsAt P t (n * m) := by
  intro H enc w fuel cs x h
  obtain ⟨xs, f, _, _, hl, hxl, hi⟩ := DataW.trod_array ht h
  rw [hct] at hl
  rw [hce] at hi
  have : ∀ k, k ≤ n → ∃ l : List Int, l.length = k * m ∧ cs.take (k * m) = l.map (fun y => Value.int .i64 y) ∧ Ints l := by
    intro k
    induction k with
    | zero => intro _; exact ⟨[], by simp, by simp, fun x hx => by cases hx⟩
    | succ k ih =>
      intro hk
      obtain ⟨l, h1, h2, h3⟩ := ih (by omega)
      have hx := hi k (by omega)
      rw [List.getElem?_eq_getElem (by omega)] at hx
      obtain ⟨l2, g1, g2, g3⟩ := he H enc w f _ _ hx
      refine ⟨l ++ l2, by rw [List.length_append, h1, g1, Nat.succ_mul], ?_, ints_app h3 g3⟩
      rw [Nat.succ_mul, List.take_add, h2, g2, List.map_append]
  obtain ⟨l, h1, h2, h3⟩ := this n (Nat.le_refl _)
  rw [List.take_of_length_le (by omega)] at h2
  exact ⟨l, h1, h2, h3⟩
def IntsF (P : Program) (fs : List Field) (o n : Nat) : Prop :=
  ∀ (H : Type) (enc : TypeId × Value → H) (w : World) (fuel : Nat) (cs : List Value) (xs : List (DataW H × List MemPlace)),
    cs.length = o + n → (fs.mapM fun f => DataW.trod enc P w 0 (fun _ => true) true fuel f.type ((cs.drop f.offset).take (P.cellsOf f.type))) = some xs →
    ∃ l : List Int, l.length = n ∧ cs.drop o = l.map (fun y => Value.int .i64 y) ∧ Ints l
theorem intsF_one {P : Program} {f : Field} {o n : Nat} (ho : f.offset = o) (hc : P.cellsOf f.type = n) (h : IntsAt P f.type n) : IntsF P [f] o n := by
  intro H enc w fuel cs xs hl hm
  simp only [List.mapM_cons, List.mapM_nil, Option.pure_def, Option.bind_eq_bind, Option.bind_some, Option.bind_eq_some_iff, Option.some.injEq] at hm
  obtain ⟨y, hy, rfl⟩ := hm
  rw [ho, hc, List.take_of_length_le (by simp; omega)] at hy
  exact h H enc w fuel _ y hy
theorem intsF_cons {P : Program} {f : Field} {fs : List Field} {o a b : Nat} (ho : f.offset = o) (hc : P.cellsOf f.type = a) (h : IntsAt P f.type a) (hr : IntsF P fs (o + a) b) : IntsF P (f :: fs) o (a + b) := by
  intro H enc w fuel cs xs hl hm
  simp only [List.mapM_cons, Option.pure_def, Option.bind_eq_bind, Option.bind_eq_some_iff, Option.some.injEq] at hm
  obtain ⟨y, hy, ys, hys, rfl⟩ := hm
  rw [ho, hc] at hy
  obtain ⟨l, h1, h2, h3⟩ := h H enc w fuel _ y hy
  obtain ⟨l2, g1, g2, g3⟩ := hr H enc w fuel cs ys (by omega) hys
  refine ⟨l ++ l2, by rw [List.length_append, h1, g1], ?_, ints_app h3 g3⟩
  rw [List.map_append, ← h2, ← g2, ← List.drop_drop, List.take_append_drop]
theorem ints_struct {P : Program} {t : TypeId} {fs : Array Field} {n : Nat} (ht : P.underlying t = some (.struct fs)) (hc : P.cellsOf t = n) (h : IntsF P fs.toList 0 n) : IntsAt P t n := by
  intro H enc w fuel cs x hd
  cases fuel with
  | zero => simp [DataW.trod] at hd
  | succ m =>
    unfold DataW.trod at hd
    simp only [ht] at hd
    split at hd
    · rename_i hl
      obtain ⟨xs, hxs, he⟩ := Option.map_eq_some_iff.1 hd
      have := h H enc w m cs xs (by omega) hxs
      simpa using this
    · cases hd
theorem ints48 : IntsAt Tryd.prog 48 7 := by
  have h3 : IntsAt Tryd.prog 3 1 := ints_int Tryd.underlying3
  exact ints_struct Tryd.underlying48 (by kernel_rfl) (intsF_cons (a := 1) (b := 6) rfl (by kernel_rfl) h3 (intsF_cons (a := 1) (b := 5) rfl (by kernel_rfl) h3 (intsF_cons (a := 1) (b := 4) rfl (by kernel_rfl) h3 (intsF_cons (a := 1) (b := 3) rfl (by kernel_rfl) h3 (intsF_cons (a := 1) (b := 2) rfl (by kernel_rfl) h3 (intsF_cons (a := 1) (b := 1) rfl (by kernel_rfl) h3 (intsF_one rfl (by kernel_rfl) h3)))))))
theorem ints49 : IntsAt Tryd.prog 49 63 := ints_arr (n := 9) (m := 7) Tryd.underlying49 (by kernel_rfl) (by kernel_rfl) ints48
theorem ints51 : IntsAt Tryd.prog 51 64 :=
  ints_struct Tryd.underlying51 (by kernel_rfl) (intsF_cons (a := 1) (b := 63) rfl (by kernel_rfl) (ints_int Tryd.underlying3) (intsF_one rfl (by kernel_rfl) ints49))
/-- What the listed table says of a world. -/
theorem tabOf {W : World} (h : laidMetH Tryd.prog Rows.tallyNumbersRow.laid W) : TabW W := by
  rw [MakeChecks.laidMetH_plain _ _ _ (by kernel_rfl)] at h
  have h1 : laidMet Tryd.prog (_ :: _ :: _ :: []) W := h
  exact Lib.tabIs_of_head (zs := Lib.pow10Tab) (t := 119) (e := 71) (n := 20) gTab (by kernel_rfl) Tryd.underlying119 Tryd.underlying71 (by kernel_rfl) (by kernel_rfl) (laidMet.tail (laidMet.tail h1))
theorem tallyNumbers_pure (a b : List Int) (ga : a.length = 64 ∧ Ints a) (gb : b.length = 64 ∧ Ints b) : (a.length = 64 ∧ Ints a) ∧ (b.length = 64 ∧ Ints b) ∧ (some true : Option Bool) = some true := ⟨ga, gb, rfl⟩
theorem tallyNumbers_calls (a b : List Int) (r : Bool) (w : World) (ht : TabW w) (h : (a.length = 64 ∧ Ints a) ∧ (b.length = 64 ∧ Ints b) ∧ some true = some r) :
    Calls Tryd.prog 8 #[.agg (TV a), .agg (TV b)] w fun e w' => e = .returned (.bool r) ∧ Below w.heap.size w w' := by
  obtain ⟨⟨h1, h2⟩, ⟨h3, h4⟩, h5⟩ := h
  obtain rfl := Option.some.inj h5
  exact tallyNumbers_T a b w h1 h3 h2 ht
end Go.Proofs.YtcncndhoeiaoeaaDoor.PTallyExact

