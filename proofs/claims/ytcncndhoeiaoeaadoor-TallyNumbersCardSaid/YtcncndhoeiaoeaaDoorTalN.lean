/-
Names of kinds, events in the document's form, numbers in the document's words (printed walks).
-/
import Derived.Test.YtcncndhoeiaoeaaDoorPTallyExactx0
namespace Go.Proofs.YtcncndhoeiaoeaaDoor.PTallyExact
open Go.RowKit Go.Proofs.YtcncndhoeiaoeaaDoorW.PrintWords Go.Proofs.YtcncndhoeiaoeaaDoorW.PrintLast Go.Proofs.YtcncndhoeiaoeaaDoorW.PrintMore
attribute [local go_sem] max2_int min2_int max_two min_two max_three min_three max_four min_four   -- for this text's walks alone
set_option linter.unusedVariables false
set_option linter.unusedSimpArgs false

/-- A state of type 48 at block g of W; what its slices lead to came in by w0. -/
def IsS48 (w0 W : World) (g : Nat) (f0 : Int) (f1 : Int) (f2 : Int) (f3 : Int) (f4 : Int) (f5 : Int) (f6 : Int) : Prop := W.heap[g]? = some (.cells #[.int .i64 f0, .int .i64 f1, .int .i64 f2, .int .i64 f3, .int .i64 f4, .int .i64 f5, .int .i64 f6] 48 (0, 0)) ∧ w0.heap.size ≤ g
theorem IsS48.grown {w0 W : World} {g : Nat} {f0 : Int} {f1 : Int} {f2 : Int} {f3 : Int} {f4 : Int} {f5 : Int} {f6 : Int} {W1 : World} {row : Option Nat} (h : IsS48 w0 W g f0 f1 f2 f3 f4 f5 f6) (hw : W.grownBy W1 row) (hne : some g ≠ row) : IsS48 w0 W1 g f0 f1 f2 f3 f4 f5 f6 := by
  obtain ⟨hb, hg⟩ := h
  exact ⟨blk_grown hb hw hne, hg⟩
theorem IsS48.own_neN {w0 W : World} {g : Nat} {f0 : Int} {f1 : Int} {f2 : Int} {f3 : Int} {f4 : Int} {f5 : Int} {f6 : Int} {α : Type} {d : Kd α} {e : Nat} {base : Nat} {ok : Nat → Prop} {v : Value} {xs : List α} (h : IsS48 w0 W g f0 f1 f2 f3 f4 f5 f6) (ho : Kd.N d e W base ok v xs) (ht : e ≠ 48) : some g ≠ v.ownBlock := by
  obtain ⟨hb, hg⟩ := h
  exact Kd.N_ne ho hb ht
theorem IsS48.fresh {w0 W : World} {g : Nat} {f0 : Int} {f1 : Int} {f2 : Int} {f3 : Int} {f4 : Int} {f5 : Int} {f6 : Int} (h : IsS48 w0 W g f0 f1 f2 f3 f4 f5 f6) : ∀ k, W.heap.size ≤ k → k ≠ g := by
  obtain ⟨hb, hg⟩ := h
  exact Kd.freshB hb
theorem IsS48.kept {w0 W : World} {g : Nat} {f0 : Int} {f1 : Int} {f2 : Int} {f3 : Int} {f4 : Int} {f5 : Int} {f6 : Int} {W1 : World} {S : Nat → Prop} (h : IsS48 w0 W g f0 f1 f2 f3 f4 f5 f6) (hk : Kept W W1 S) (hne : ¬ S g) : IsS48 w0 W1 g f0 f1 f2 f3 f4 f5 f6 := by
  obtain ⟨hb, hg⟩ := h
  exact ⟨blk_kept hb hk hne, hg⟩
theorem IsS48.below {w0 W : World} {g : Nat} {f0 : Int} {f1 : Int} {f2 : Int} {f3 : Int} {f4 : Int} {f5 : Int} {f6 : Int} {W1 : World} (h : IsS48 w0 W g f0 f1 f2 f3 f4 f5 f6) (hw : Below W.heap.size W W1) : IsS48 w0 W1 g f0 f1 f2 f3 f4 f5 f6 := h.grown (grown_of_below hw none) (by simp)
theorem IsS48.alloc {w0 W : World} {g : Nat} {f0 : Int} {f1 : Int} {f2 : Int} {f3 : Int} {f4 : Int} {f5 : Int} {f6 : Int} (h : IsS48 w0 W g f0 f1 f2 f3 f4 f5 f6) (o : Obj) : IsS48 w0 (W.alloc o) g f0 f1 f2 f3 f4 f5 f6 := h.below (below_alloc (Below.refl _ _) o)
theorem IsS48.drewN {w0 W : World} {g : Nat} {f0 : Int} {f1 : Int} {f2 : Int} {f3 : Int} {f4 : Int} {f5 : Int} {f6 : Int} (h : IsS48 w0 W g f0 f1 f2 f3 f4 f5 f6) (m : Nat) : IsS48 w0 (W.drewN m) g f0 f1 f2 f3 f4 f5 f6 := h
theorem IsS48.drew {w0 W : World} {g : Nat} {f0 : Int} {f1 : Int} {f2 : Int} {f3 : Int} {f4 : Int} {f5 : Int} {f6 : Int} (h : IsS48 w0 W g f0 f1 f2 f3 f4 f5 f6) : IsS48 w0 W.drew g f0 f1 f2 f3 f4 f5 f6 := h
theorem IsS48.at_ {w0 W : World} {g : Nat} {f0 : Int} {f1 : Int} {f2 : Int} {f3 : Int} {f4 : Int} {f5 : Int} {f6 : Int} {w' : World} {m : Nat} (hq : W.drewN m = w') (h : IsS48 w0 W g f0 f1 f2 f3 f4 f5 f6) : IsS48 w0 w' g f0 f1 f2 f3 f4 f5 f6 := by subst hq; exact IsS48.drewN h m
theorem IsS48.apart {w0 W : World} {g : Nat} {f0 : Int} {f1 : Int} {f2 : Int} {f3 : Int} {f4 : Int} {f5 : Int} {f6 : Int} {α : Type} {d : Kd α} {e : Nat} {base : Nat} {ok : Nat → Prop} {v : Value} {xs : List α} (h : IsS48 w0 W g f0 f1 f2 f3 f4 f5 f6) (ho : d.R e W base ok v xs) (ht : ∀ q, q ∈ e :: d.E → q ≠ 48) : d.R e W base (fun k => ok k ∧ k ≠ g) v xs := by
  obtain ⟨hb, hg⟩ := h
  exact Kd.R_types ho hb ht
theorem IsS48.own_ne {w0 W : World} {g : Nat} {f0 : Int} {f1 : Int} {f2 : Int} {f3 : Int} {f4 : Int} {f5 : Int} {f6 : Int} {α : Type} {d : Kd α} {e : Nat} {base : Nat} {ok : Nat → Prop} {v : Value} {xs : List α} (h : IsS48 w0 W g f0 f1 f2 f3 f4 f5 f6) (ho : d.R e W base ok v xs) (ht : e ≠ 48) : some g ≠ v.ownBlock := by
  obtain ⟨hb, hg⟩ := h
  exact Kd.R_ne ho hb ht
theorem IsS48.apartQ {w0 W : World} {g : Nat} {f0 : Int} {f1 : Int} {f2 : Int} {f3 : Int} {f4 : Int} {f5 : Int} {f6 : Int} {α : Type} {d : Kd α} {e : Nat} {base : Nat} {ok : Nat → Prop} {v : Value} {xs : List α} (h : IsS48 w0 W g f0 f1 f2 f3 f4 f5 f6) (ho : d.Q e W base ok v xs) (ht : ∀ q, q ∈ e :: d.E → q ≠ 48) : d.Q e W base (fun k => ok k ∧ k ≠ g) v xs := by
  obtain ⟨hb, hg⟩ := h
  exact Kd.Q_types ho hb ht
theorem IsS48.own_neQ {w0 W : World} {g : Nat} {f0 : Int} {f1 : Int} {f2 : Int} {f3 : Int} {f4 : Int} {f5 : Int} {f6 : Int} {α : Type} {d : Kd α} {e : Nat} {base : Nat} {ok : Nat → Prop} {v : Value} {xs : List α} (h : IsS48 w0 W g f0 f1 f2 f3 f4 f5 f6) (ho : d.Q e W base ok v xs) (ht : e ≠ 48) : some g ≠ v.ownBlock := by
  obtain ⟨hb, hg⟩ := h
  exact Kd.Q_ne ho hb ht
theorem IsS48.apartS {w0 W : World} {g : Nat} {f0 : Int} {f1 : Int} {f2 : Int} {f3 : Int} {f4 : Int} {f5 : Int} {f6 : Int} {α : Type} {d : Kd α} {e : Nat} {base : Nat} {ok : Nat → Prop} {v : Value} {xs : List α} (h : IsS48 w0 W g f0 f1 f2 f3 f4 f5 f6) (ho : d.S e W base ok v xs) (ht : ∀ q, q ∈ e :: d.E → q ≠ 48) : d.S e W base (fun k => ok k ∧ k ≠ g) v xs := by
  obtain ⟨hb, hg⟩ := h
  exact Kd.S_types ho hb ht
theorem IsS48.own_neS {w0 W : World} {g : Nat} {f0 : Int} {f1 : Int} {f2 : Int} {f3 : Int} {f4 : Int} {f5 : Int} {f6 : Int} {α : Type} {d : Kd α} {e : Nat} {base : Nat} {ok : Nat → Prop} {v : Value} {xs : List α} (h : IsS48 w0 W g f0 f1 f2 f3 f4 f5 f6) (ho : d.S e W base ok v xs) (ht : e ≠ 48) : some g ≠ v.ownBlock := by
  obtain ⟨hb, hg⟩ := h
  exact Kd.S_ne ho hb ht
theorem IsS48.lt {w0 W : World} {g : Nat} {f0 : Int} {f1 : Int} {f2 : Int} {f3 : Int} {f4 : Int} {f5 : Int} {f6 : Int} (h : IsS48 w0 W g f0 f1 f2 f3 f4 f5 f6) : g < W.heap.size := by
  obtain ⟨hb, hg⟩ := h
  exact blk_lt hb
theorem IsS48.ge {w0 W : World} {g : Nat} {f0 : Int} {f1 : Int} {f2 : Int} {f3 : Int} {f4 : Int} {f5 : Int} {f6 : Int} (h : IsS48 w0 W g f0 f1 f2 f3 f4 f5 f6) : w0.heap.size ≤ g := by
  obtain ⟨hb, hg⟩ := h
  exact hg
theorem IsS48.ne_blk {w0 W : World} {g : Nat} {f0 : Int} {f1 : Int} {f2 : Int} {f3 : Int} {f4 : Int} {f5 : Int} {f6 : Int} {a : Nat} {cs : Array Value} {t : TypeId} {fr : Nat × Nat} (h : IsS48 w0 W g f0 f1 f2 f3 f4 f5 f6) (hb2 : W.heap[a]? = some (.cells cs t fr)) (ht : t ≠ 48) : g ≠ a := by
  obtain ⟨hb, hg⟩ := h
  rintro rfl
  rw [hb] at hb2
  injection hb2 with hb2
  injection hb2 with _ ht2
  exact ht ht2.symm
theorem IsS48.far {w0 W : World} {g : Nat} {f0 : Int} {f1 : Int} {f2 : Int} {f3 : Int} {f4 : Int} {f5 : Int} {f6 : Int} {p : Addr} (h : IsS48 w0 W g f0 f1 f2 f3 f4 f5 f6) (hne : g ≠ p.block) (u : Value) : IsS48 w0 (W.setCell p u) g f0 f1 f2 f3 f4 f5 f6 := by
  obtain ⟨hb, hg⟩ := h
  exact ⟨blk_far hb hne u, hg⟩
theorem cellS48_0 {W : World} {g : Nat} {f0 : Int} {f1 : Int} {f2 : Int} {f3 : Int} {f4 : Int} {f5 : Int} {f6 : Int} (h : W.heap[g]? = some (.cells #[.int .i64 f0, .int .i64 f1, .int .i64 f2, .int .i64 f3, .int .i64 f4, .int .i64 f5, .int .i64 f6] 48 (0, 0))) : W.cell? ⟨g, 0, none⟩ = some (.int .i64 f0) := (blk_cell h 0).trans rfl
theorem IsS48.set_0 {w0 W : World} {g : Nat} {f0 : Int} {f1 : Int} {f2 : Int} {f3 : Int} {f4 : Int} {f5 : Int} {f6 : Int} (h : IsS48 w0 W g f0 f1 f2 f3 f4 f5 f6) (x : Int) : IsS48 w0 (W.setCell ⟨g, 0, none⟩ (.int .i64 x)) g x f1 f2 f3 f4 f5 f6 := by
  obtain ⟨hb, hg⟩ := h
  exact ⟨by simpa using blk_set hb 0 (.int .i64 x), hg⟩
theorem cellS48_1 {W : World} {g : Nat} {f0 : Int} {f1 : Int} {f2 : Int} {f3 : Int} {f4 : Int} {f5 : Int} {f6 : Int} (h : W.heap[g]? = some (.cells #[.int .i64 f0, .int .i64 f1, .int .i64 f2, .int .i64 f3, .int .i64 f4, .int .i64 f5, .int .i64 f6] 48 (0, 0))) : W.cell? ⟨g, 1, none⟩ = some (.int .i64 f1) := (blk_cell h 1).trans rfl
theorem IsS48.set_1 {w0 W : World} {g : Nat} {f0 : Int} {f1 : Int} {f2 : Int} {f3 : Int} {f4 : Int} {f5 : Int} {f6 : Int} (h : IsS48 w0 W g f0 f1 f2 f3 f4 f5 f6) (x : Int) : IsS48 w0 (W.setCell ⟨g, 1, none⟩ (.int .i64 x)) g f0 x f2 f3 f4 f5 f6 := by
  obtain ⟨hb, hg⟩ := h
  exact ⟨by simpa using blk_set hb 1 (.int .i64 x), hg⟩
theorem cellS48_2 {W : World} {g : Nat} {f0 : Int} {f1 : Int} {f2 : Int} {f3 : Int} {f4 : Int} {f5 : Int} {f6 : Int} (h : W.heap[g]? = some (.cells #[.int .i64 f0, .int .i64 f1, .int .i64 f2, .int .i64 f3, .int .i64 f4, .int .i64 f5, .int .i64 f6] 48 (0, 0))) : W.cell? ⟨g, 2, none⟩ = some (.int .i64 f2) := (blk_cell h 2).trans rfl
theorem IsS48.set_2 {w0 W : World} {g : Nat} {f0 : Int} {f1 : Int} {f2 : Int} {f3 : Int} {f4 : Int} {f5 : Int} {f6 : Int} (h : IsS48 w0 W g f0 f1 f2 f3 f4 f5 f6) (x : Int) : IsS48 w0 (W.setCell ⟨g, 2, none⟩ (.int .i64 x)) g f0 f1 x f3 f4 f5 f6 := by
  obtain ⟨hb, hg⟩ := h
  exact ⟨by simpa using blk_set hb 2 (.int .i64 x), hg⟩
theorem cellS48_3 {W : World} {g : Nat} {f0 : Int} {f1 : Int} {f2 : Int} {f3 : Int} {f4 : Int} {f5 : Int} {f6 : Int} (h : W.heap[g]? = some (.cells #[.int .i64 f0, .int .i64 f1, .int .i64 f2, .int .i64 f3, .int .i64 f4, .int .i64 f5, .int .i64 f6] 48 (0, 0))) : W.cell? ⟨g, 3, none⟩ = some (.int .i64 f3) := (blk_cell h 3).trans rfl
theorem IsS48.set_3 {w0 W : World} {g : Nat} {f0 : Int} {f1 : Int} {f2 : Int} {f3 : Int} {f4 : Int} {f5 : Int} {f6 : Int} (h : IsS48 w0 W g f0 f1 f2 f3 f4 f5 f6) (x : Int) : IsS48 w0 (W.setCell ⟨g, 3, none⟩ (.int .i64 x)) g f0 f1 f2 x f4 f5 f6 := by
  obtain ⟨hb, hg⟩ := h
  exact ⟨by simpa using blk_set hb 3 (.int .i64 x), hg⟩
theorem cellS48_4 {W : World} {g : Nat} {f0 : Int} {f1 : Int} {f2 : Int} {f3 : Int} {f4 : Int} {f5 : Int} {f6 : Int} (h : W.heap[g]? = some (.cells #[.int .i64 f0, .int .i64 f1, .int .i64 f2, .int .i64 f3, .int .i64 f4, .int .i64 f5, .int .i64 f6] 48 (0, 0))) : W.cell? ⟨g, 4, none⟩ = some (.int .i64 f4) := (blk_cell h 4).trans rfl
theorem IsS48.set_4 {w0 W : World} {g : Nat} {f0 : Int} {f1 : Int} {f2 : Int} {f3 : Int} {f4 : Int} {f5 : Int} {f6 : Int} (h : IsS48 w0 W g f0 f1 f2 f3 f4 f5 f6) (x : Int) : IsS48 w0 (W.setCell ⟨g, 4, none⟩ (.int .i64 x)) g f0 f1 f2 f3 x f5 f6 := by
  obtain ⟨hb, hg⟩ := h
  exact ⟨by simpa using blk_set hb 4 (.int .i64 x), hg⟩
theorem cellS48_5 {W : World} {g : Nat} {f0 : Int} {f1 : Int} {f2 : Int} {f3 : Int} {f4 : Int} {f5 : Int} {f6 : Int} (h : W.heap[g]? = some (.cells #[.int .i64 f0, .int .i64 f1, .int .i64 f2, .int .i64 f3, .int .i64 f4, .int .i64 f5, .int .i64 f6] 48 (0, 0))) : W.cell? ⟨g, 5, none⟩ = some (.int .i64 f5) := (blk_cell h 5).trans rfl
theorem IsS48.set_5 {w0 W : World} {g : Nat} {f0 : Int} {f1 : Int} {f2 : Int} {f3 : Int} {f4 : Int} {f5 : Int} {f6 : Int} (h : IsS48 w0 W g f0 f1 f2 f3 f4 f5 f6) (x : Int) : IsS48 w0 (W.setCell ⟨g, 5, none⟩ (.int .i64 x)) g f0 f1 f2 f3 f4 x f6 := by
  obtain ⟨hb, hg⟩ := h
  exact ⟨by simpa using blk_set hb 5 (.int .i64 x), hg⟩
theorem cellS48_6 {W : World} {g : Nat} {f0 : Int} {f1 : Int} {f2 : Int} {f3 : Int} {f4 : Int} {f5 : Int} {f6 : Int} (h : W.heap[g]? = some (.cells #[.int .i64 f0, .int .i64 f1, .int .i64 f2, .int .i64 f3, .int .i64 f4, .int .i64 f5, .int .i64 f6] 48 (0, 0))) : W.cell? ⟨g, 6, none⟩ = some (.int .i64 f6) := (blk_cell h 6).trans rfl
theorem IsS48.set_6 {w0 W : World} {g : Nat} {f0 : Int} {f1 : Int} {f2 : Int} {f3 : Int} {f4 : Int} {f5 : Int} {f6 : Int} (h : IsS48 w0 W g f0 f1 f2 f3 f4 f5 f6) (x : Int) : IsS48 w0 (W.setCell ⟨g, 6, none⟩ (.int .i64 x)) g f0 f1 f2 f3 f4 f5 x := by
  obtain ⟨hb, hg⟩ := h
  exact ⟨by simpa using blk_set hb 6 (.int .i64 x), hg⟩
theorem IsS48.new (w0 W : World) (f0 : Int) (f1 : Int) (f2 : Int) (f3 : Int) (f4 : Int) (f5 : Int) (f6 : Int) (hB : Below w0.heap.size w0 W) : IsS48 w0 (W.alloc (.cells #[.int .i64 f0, .int .i64 f1, .int .i64 f2, .int .i64 f3, .int .i64 f4, .int .i64 f5, .int .i64 f6] 48)) W.heap.size f0 f1 f2 f3 f4 f5 f6 := ⟨by simpa using heap_alloc_new W _, hB.size⟩

/-! ### tally_names: function 43 -/
def tally_names.f  : Option (List ByteArray) := some (([(⟨#[]⟩ : ByteArray), (⟨#[105, 110, 115, 101, 114, 116]⟩ : ByteArray), (⟨#[100, 101, 108, 101, 116, 101]⟩ : ByteArray), (⟨#[104, 97, 115]⟩ : ByteArray), (⟨#[112, 117, 116]⟩ : ByteArray), (⟨#[97, 100, 100]⟩ : ByteArray), (⟨#[114, 101, 109, 111, 118, 101]⟩ : ByteArray), (⟨#[103, 101, 116]⟩ : ByteArray), (⟨#[103, 105, 118, 101]⟩ : ByteArray)] : List ByteArray))
set_option maxHeartbeats 8000000 in
set_option maxRecDepth 100000 in
theorem tally_names.calls  (r : List ByteArray) (w : World) (h : tally_names.f  = some r) :
    Calls Tryd.prog 43 #[] w fun e w' => ∃ v0_ : Value, e = .returned (v0_) ∧ Kd.R Kd.string 9 w' w.heap.size (fun _ => True) v0_ r ∧ Below w.heap.size w w' := by
  have HB := Aside0.mk (Below.refl w.heap.size w)
  have H : (some (([(⟨#[]⟩ : ByteArray), (⟨#[105, 110, 115, 101, 114, 116]⟩ : ByteArray), (⟨#[100, 101, 108, 101, 116, 101]⟩ : ByteArray), (⟨#[104, 97, 115]⟩ : ByteArray), (⟨#[112, 117, 116]⟩ : ByteArray), (⟨#[97, 100, 100]⟩ : ByteArray), (⟨#[114, 101, 109, 111, 118, 101]⟩ : ByteArray), (⟨#[103, 101, 116]⟩ : ByteArray), (⟨#[103, 105, 118, 101]⟩ : ByteArray)] : List ByteArray))) = some r := h
  clear h
  obtain ⟨y121, hy121⟩ : ∃ y_ : List ByteArray, y_ = (([(⟨#[]⟩ : ByteArray), (⟨#[105, 110, 115, 101, 114, 116]⟩ : ByteArray), (⟨#[100, 101, 108, 101, 116, 101]⟩ : ByteArray), (⟨#[104, 97, 115]⟩ : ByteArray), (⟨#[112, 117, 116]⟩ : ByteArray), (⟨#[97, 100, 100]⟩ : ByteArray), (⟨#[114, 101, 109, 111, 118, 101]⟩ : ByteArray), (⟨#[103, 101, 116]⟩ : ByteArray), (⟨#[103, 105, 118, 101]⟩ : ByteArray)] : List ByteArray)) := ⟨_, rfl⟩
  replace H : (some y121) = some r := by first | (rw [hy121]; with_reducible exact H) | (have H2_ := (Option.bind_some _ _).symm.trans H; rw [hy121]; with_reducible exact H2_) | (have H2_ := (Option.bind_some _ _).symm.trans H; with_reducible exact H2_) | with_reducible exact H | (rw [hy121]; exact H) | exact H
  have Ny121 := Aside0.mk hy121
  clear hy121
  obtain rfl := Option.some.inj H
  go_enter Tryd.func43, Tryd.ntmps43
  go_wp2_with (first | ((with_reducible refine gate_dst (N := 1) rfl ?_); refine Kd.R_lit Kd.string _ 9 ?hg (N := 1) ?hd (xs := ([(⟨#[]⟩ : ByteArray), (⟨#[105, 110, 115, 101, 114, 116]⟩ : ByteArray), (⟨#[100, 101, 108, 101, 116, 101]⟩ : ByteArray), (⟨#[104, 97, 115]⟩ : ByteArray), (⟨#[112, 117, 116]⟩ : ByteArray), (⟨#[97, 100, 100]⟩ : ByteArray), (⟨#[114, 101, 109, 111, 118, 101]⟩ : ByteArray), (⟨#[103, 101, 116]⟩ : ByteArray), (⟨#[103, 105, 118, 101]⟩ : ByteArray)] : List ByteArray)) (inner := [.string (⟨#[]⟩ : ByteArray), .string (⟨#[105, 110, 115, 101, 114, 116]⟩ : ByteArray), .string (⟨#[100, 101, 108, 101, 116, 101]⟩ : ByteArray), .string (⟨#[104, 97, 115]⟩ : ByteArray), .string (⟨#[112, 117, 116]⟩ : ByteArray), .string (⟨#[97, 100, 100]⟩ : ByteArray), .string (⟨#[114, 101, 109, 111, 118, 101]⟩ : ByteArray), .string (⟨#[103, 101, 116]⟩ : ByteArray), .string (⟨#[103, 105, 118, 101]⟩ : ByteArray)]) (ok := fun _ => True) (okp := fun _ => True) ?hr ?hp (fun _ hk => hk) trivial (Below.refl _ _) (Nat.le_refl _) (by simp) ?_; (case hd => rfl); (case hg => rfl); (case hr => first | (go_simp; done) | (go_simp; rfl)); (case hp => exact (Reps.one (show Kd.M Kd.string _ _ _ (⟨#[]⟩ : ByteArray) [.string (⟨#[]⟩ : ByteArray)] from rfl) (Reps.one (show Kd.M Kd.string _ _ _ (⟨#[105, 110, 115, 101, 114, 116]⟩ : ByteArray) [.string (⟨#[105, 110, 115, 101, 114, 116]⟩ : ByteArray)] from rfl) (Reps.one (show Kd.M Kd.string _ _ _ (⟨#[100, 101, 108, 101, 116, 101]⟩ : ByteArray) [.string (⟨#[100, 101, 108, 101, 116, 101]⟩ : ByteArray)] from rfl) (Reps.one (show Kd.M Kd.string _ _ _ (⟨#[104, 97, 115]⟩ : ByteArray) [.string (⟨#[104, 97, 115]⟩ : ByteArray)] from rfl) (Reps.one (show Kd.M Kd.string _ _ _ (⟨#[112, 117, 116]⟩ : ByteArray) [.string (⟨#[112, 117, 116]⟩ : ByteArray)] from rfl) (Reps.one (show Kd.M Kd.string _ _ _ (⟨#[97, 100, 100]⟩ : ByteArray) [.string (⟨#[97, 100, 100]⟩ : ByteArray)] from rfl) (Reps.one (show Kd.M Kd.string _ _ _ (⟨#[114, 101, 109, 111, 118, 101]⟩ : ByteArray) [.string (⟨#[114, 101, 109, 111, 118, 101]⟩ : ByteArray)] from rfl) (Reps.one (show Kd.M Kd.string _ _ _ (⟨#[103, 101, 116]⟩ : ByteArray) [.string (⟨#[103, 101, 116]⟩ : ByteArray)] from rfl) (Reps.one (show Kd.M Kd.string _ _ _ (⟨#[103, 105, 118, 101]⟩ : ByteArray) [.string (⟨#[103, 105, 118, 101]⟩ : ByteArray)] from rfl) (Reps.none _ _))))))))))); intro v122 w1 ho2 hb hg_ hnew_; clear hg_ hnew_; (first | rw [← Ny121.out] at ho2 | (simp only [Int.reduceToNat] at ho2; rw [← Ny121.out] at ho2)); have n0_ := Aside0.mk (Kd.R_lower ho2 (below_size (by repeat (first | (with_reducible first | exact HB.out | apply below_alloc | apply pw_below_drewN | apply below_drew1) | exact HB.out)))); have n1_ := Aside0.mk (below_step (by repeat (first | (with_reducible first | exact HB.out | apply below_alloc | apply pw_below_drewN | apply below_drew1) | exact HB.out)) hb); clear HB; have HO123 := n0_; have HB := n1_; clear n0_ n1_; clear hb ho2))
  go_ret
  exact ⟨_, by first | rfl | (simp [errW_none, errW_some] <;> rfl) | (simp [*, errW_none, errW_some] <;> rfl), by (with_reducible repeat (first | apply Kd.R_alloc | apply Kd.R_drewN | apply Kd.R_drew)); exact HO123.out, by repeat (first | (with_reducible first | exact HB.out | apply below_alloc | apply pw_below_drewN | apply below_drew1) | exact HB.out)⟩

-- NOT PRINTED: function 44 (tally_Count_numbers)

-- NOT PRINTED: function 63 (abi_NoEscape)

-- NOT PRINTED: function 57 (strings_Builder_copyCheck)

-- NOT PRINTED: function 64 (bytealg_MakeNoZero)

-- NOT PRINTED: function 58 (strings_Builder_grow)

-- NOT PRINTED: function 50 (strings_Builder_Grow)

-- NOT PRINTED: function 51 (strings_Builder_WriteString)

-- NOT PRINTED: function 52 (strings_Builder_String)

-- NOT PRINTED: function 45 (strings_Join)

-- NOT PRINTED: function 33 (tally_Lines)

-- NOT PRINTED: function 35 (tally_Steps)

-- NOT PRINTED: function 47 (tally_Tally_all)

-- NOT PRINTED: function 36 (tally_Less)

-- NOT PRINTED: function 37 (tally_Sum)

-- NOT PRINTED: function 27 (revenantlaw35_awake)

-- NOT PRINTED: function 29 (revenantref35_Of)

/-! ### revenantlaw35_events: function 30 -/
def revenantlaw35_events.l0 : Nat → List (S78) → List (S82) → Int → Option ((List (S82)))
  | 0, _, _, _ => none
  | k + 1, x0, x3, x4 => if x4 < (x0.length : Int) then (if 0 ≤ x4 then (if x3.length < 1599289640401 then (revenantlaw35_events.l0 k x0 (x3 ++ [(⟨(rd_T78 x0 x4).f1, (rd_T78 x0 x4).f2, (⟨(rd_T78 x0 x4).f3.f0, (rd_T78 x0 x4).f3.f1, (rd_T78 x0 x4).f3.f2, (rd_T78 x0 x4).f3.f3⟩ : S73), (rd_T78 x0 x4).f4, (rd_T78 x0 x4).f5, (rd_T78 x0 x4).f6, (⟨(rd_T78 x0 x4).f7.f0, (rd_T78 x0 x4).f7.f1, (rd_T78 x0 x4).f7.f2⟩ : S76)⟩ : S82)]) (wrap64 (x4 + 1))) else (none)) else (none)) else (some x3)
def revenantlaw35_events.f (k : Nat) (l0 : List (S78)) : Option ((List (S82))) := revenantlaw35_events.l0 k l0 (([] : List (S82))) 0
theorem revenantlaw35_events.mono_l : ∀ k, (∀ y0 y1 y2, LeO (revenantlaw35_events.l0 k y0 y1 y2) (revenantlaw35_events.l0 (k + 1) y0 y1 y2))
  | 0 => fun _ _ _ r h => by simp [revenantlaw35_events.l0] at h
  | k + 1 => by
    have ih0 := revenantlaw35_events.mono_l k
    · intro y0 y1 y2
      unfold revenantlaw35_events.l0
      repeat' first
      | (with_reducible exact ih0 _ _ _)
      | (with_reducible exact LeO.refl _)
      | (with_reducible exact LeO.none _)
      | (with_reducible refine LeO.ite ?_ ?_)
      | (with_reducible refine LeO.bind ?_ (fun _ => ?_))
      | exact ih0 _ _ _
      | exact LeO.none _
      | refine LeO.ite ?_ ?_
      | refine LeO.bind ?_ (fun _ => ?_)
theorem revenantlaw35_events.mono : ∀ a0 k, LeO (revenantlaw35_events.f k a0) (revenantlaw35_events.f (k + 1) a0) := by
  intro a0 k
  have ih0 := revenantlaw35_events.mono_l k
  unfold revenantlaw35_events.f
  repeat' first
      | (with_reducible exact ih0 _ _ _)
      | (with_reducible exact LeO.refl _)
      | (with_reducible exact LeO.none _)
      | (with_reducible refine LeO.ite ?_ ?_)
      | (with_reducible refine LeO.bind ?_ (fun _ => ?_))
      | exact ih0 _ _ _
      | exact LeO.none _
      | refine LeO.ite ?_ ?_
      | refine LeO.bind ?_ (fun _ => ?_)
set_option maxHeartbeats 8000000 in
set_option maxRecDepth 100000 in
theorem revenantlaw35_events.calls (k : Nat) (A0 : Option Addr) (c0 : Nat) (l0 : List (S78)) (r : List (S82)) (w : World) (hr0 : Kd.C k78 w A0 l0.length l0) (hc0 : l0.length ≤ c0) (h : revenantlaw35_events.f k l0 = some r) :
    Calls Tryd.prog 30 #[.slice A0 l0.length c0] w fun e w' => ∃ v0_ : Value, e = .returned (v0_) ∧ Kd.R k82 82 w' w.heap.size (fun _ => True) v0_ r ∧ Below w.heap.size w w' := by
  have hu78 := Tryd.underlying78
  have hu73 := Tryd.underlying73
  have hu76 := Tryd.underlying76
  have hu82 := Tryd.underlying82
  have HR0 := Aside0.mk hr0
  have HC0 := Aside0.mk hc0
  clear hr0 hc0
  have HB := Aside0.mk (Below.refl w.heap.size w)
  have H : (revenantlaw35_events.l0 k l0 (([] : List (S82))) 0) = some r := h
  clear h
  obtain ⟨y129, hy129⟩ : ∃ y_ : List (S82), y_ = (([] : List (S82))) := ⟨_, rfl⟩
  replace H : (revenantlaw35_events.l0 k l0 y129 0) = some r := by first | (rw [hy129]; with_reducible exact H) | (have H2_ := (Option.bind_some _ _).symm.trans H; rw [hy129]; with_reducible exact H2_) | (have H2_ := (Option.bind_some _ _).symm.trans H; with_reducible exact H2_) | with_reducible exact H | (rw [hy129]; exact H) | exact H
  have Ny129 := Aside0.mk hy129
  clear hy129
  have H' := Aside0.mk H
  clear H
  go_enter Tryd.func30, Tryd.ntmps30
  go_wp2_with (first | ((with_reducible refine gate_dst (N := 6) rfl ?_); refine Kd.R_lit k82 _ 82 ?hg (N := 6) ?hd (xs := ([] : List (S82))) (inner := []) (ok := fun _ => True) (okp := fun _ => True) ?hr ?hp (fun _ hk => hk) trivial (Below.refl _ _) (Nat.le_refl _) (by simp) ?_; (case hd => rfl); (case hg => rfl); (case hr => first | (go_simp; done) | (go_simp; rfl)); (case hp => exact (Reps.none _ _)); intro v130 w2 ho3 hb hg_ hnew_; clear hg_ hnew_; (first | rw [← Ny129.out] at ho3 | (simp only [Int.reduceToNat] at ho3; rw [← Ny129.out] at ho3)); have n0_ := Aside0.mk (Kd.R_lower ho3 (below_size (by repeat (first | (with_reducible first | exact HB.out | apply below_alloc | apply pw_below_drewN | apply below_drew1) | exact HB.out)))); have n1_ := Aside0.mk (below_step (by repeat (first | (with_reducible first | exact HB.out | apply below_alloc | apply pw_below_drewN | apply below_drew1) | exact HB.out)) hb); clear HB; have HO131 := n0_; have HB := n1_; clear n0_ n1_; clear hb ho3))
  go_loopg [3, 4] k (fun kq v3 v4 w' => ∃ (x3_1 : List (S82)) (x4_1 : Int), v4 = .int .i64 x4_1 ∧ Aside0 (revenantlaw35_events.l0 kq l0 x3_1 x4_1 = some r) ∧ Aside0 (kq ≤ k) ∧ Aside0 (Kd.R k82 82 w' w.heap.size (fun _ => True) v3 x3_1) ∧ Aside0 (Below w.heap.size w w'))
  case atStart => exact ⟨(y129), (0), (by first | rfl | (simp; done) | (simp [*]; done)), H', ⟨Nat.le_refl _⟩, ⟨by (with_reducible repeat (first | apply Kd.R_alloc | apply Kd.R_drewN | apply Kd.R_drew)); exact HO131.out⟩, ⟨by repeat (first | (with_reducible first | exact HB.out | apply below_alloc | apply pw_below_drewN | apply below_drew1) | exact HB.out)⟩⟩
  case round =>
    clear H'
    try clear p2
    try clear c3
    obtain ⟨x3_1, x4_1, rfl, HA, HK1, HO_3, HB⟩ := hrel
    cases gk with
    | zero => exact absurd HA.out (by simp [revenantlaw35_events.l0])
    | succ k1 =>
      have H := HA.out
      clear HA
      simp only [revenantlaw35_events.l0] at H
      by_cases c4 : x4_1 < (l0.length : Int)
      · rw [if_pos c4] at H
        have c4b0 : decide (x4_1 < (l0.length : Int)) = true := decide_eq_true c4
        clear c4
        by_cases c5 : 0 ≤ x4_1
        · rw [if_pos c5] at H
          have c5b0 : decide (0 ≤ x4_1) = true := decide_eq_true c5
          clear c5
          by_cases c6 : x3_1.length < 1599289640401
          · rw [if_pos c6] at H
            have LMc6 := Aside0.mk c6
            clear c6
            obtain ⟨y134, hy134⟩ : ∃ y_ : List (S82), y_ = (x3_1 ++ [(⟨(rd_T78 l0 x4_1).f1, (rd_T78 l0 x4_1).f2, (⟨(rd_T78 l0 x4_1).f3.f0, (rd_T78 l0 x4_1).f3.f1, (rd_T78 l0 x4_1).f3.f2, (rd_T78 l0 x4_1).f3.f3⟩ : S73), (rd_T78 l0 x4_1).f4, (rd_T78 l0 x4_1).f5, (rd_T78 l0 x4_1).f6, (⟨(rd_T78 l0 x4_1).f7.f0, (rd_T78 l0 x4_1).f7.f1, (rd_T78 l0 x4_1).f7.f2⟩ : S76)⟩ : S82)]) := ⟨_, rfl⟩
            replace H : (revenantlaw35_events.l0 k1 l0 y134 (wrap64 (x4_1 + 1))) = some r := by first | (rw [hy134]; with_reducible exact H) | (have H2_ := (Option.bind_some _ _).symm.trans H; rw [hy134]; with_reducible exact H2_) | (have H2_ := (Option.bind_some _ _).symm.trans H; with_reducible exact H2_) | with_reducible exact H | (rw [hy134]; exact H) | exact H
            have Ny134 := Aside0.mk hy134
            clear hy134
            have H' := Aside0.mk H
            clear H
            have p132 : 0 ≤ (x4_1 : Int) := of_decide_eq_true (by first | (with_reducible assumption) | assumption)
            have q132 : x4_1 < (l0.length : Int) := of_decide_eq_true (by first | (with_reducible assumption) | assumption)
            obtain ⟨ad132, e132, hx132_0, hx132_1, hx132_2, hx132_3, hx132_4, hx132_5, hx132_6, hx132_7, hx132_8, hx132_9, hx132_10, hx132_11, hx132_12⟩ := at_T78 HR0.out x4_1 p132 q132
            cases e132
            replace hx132_0 := (HB.out.cell (World.block_lt_of_cell? w _ hx132_0)).trans hx132_0
            replace hx132_1 := (HB.out.cell (World.block_lt_of_cell? w _ hx132_1)).trans hx132_1
            replace hx132_2 := (HB.out.cell (World.block_lt_of_cell? w _ hx132_2)).trans hx132_2
            replace hx132_3 := (HB.out.cell (World.block_lt_of_cell? w _ hx132_3)).trans hx132_3
            replace hx132_4 := (HB.out.cell (World.block_lt_of_cell? w _ hx132_4)).trans hx132_4
            replace hx132_5 := (HB.out.cell (World.block_lt_of_cell? w _ hx132_5)).trans hx132_5
            replace hx132_6 := (HB.out.cell (World.block_lt_of_cell? w _ hx132_6)).trans hx132_6
            replace hx132_7 := (HB.out.cell (World.block_lt_of_cell? w _ hx132_7)).trans hx132_7
            replace hx132_8 := (HB.out.cell (World.block_lt_of_cell? w _ hx132_8)).trans hx132_8
            replace hx132_9 := (HB.out.cell (World.block_lt_of_cell? w _ hx132_9)).trans hx132_9
            replace hx132_10 := (HB.out.cell (World.block_lt_of_cell? w _ hx132_10)).trans hx132_10
            replace hx132_11 := (HB.out.cell (World.block_lt_of_cell? w _ hx132_11)).trans hx132_11
            replace hx132_12 := (HB.out.cell (World.block_lt_of_cell? w _ hx132_12)).trans hx132_12
            replace p132 := eq_true p132
            replace q132 := eq_true q132
            go_wp2_with (first | ((with_reducible refine gate_dst (N := 5) rfl ?_); refine box_event ?hg (N := 5) ?hd (cs := #[.int .i64 0, .int .i64 0, .bool false, .int .i64 0, .int .u64 0, .int .u64 0, .int .i64 0, .int .i64 0, .bool false, .bool false, .int .i64 0, .bool false, .int .u64 0]) (t := 78) ?hr ?_; (case hd => rfl); (case hg => rfl); (case hr => first | (go_simp; done) | (go_simp; rfl)); intro gb133 hg w7 hbox hb; have n0_ := Aside0.mk (Kd.R_below (by (with_reducible repeat (first | apply Kd.R_alloc | apply Kd.R_drewN | apply Kd.R_drew)); exact HO_3.out) hb); have n1_ := Aside0.mk (below_step (by repeat (first | (with_reducible first | exact HB.out | apply below_alloc | apply pw_below_drewN | apply below_drew1) | exact HB.out)) hb); have n2_ := Aside0.mk (hbox); have n3_ := Aside0.mk ((by rw [hg]; exact (below_size (by repeat (first | (with_reducible first | exact HB.out | apply below_alloc | apply pw_below_drewN | apply below_drew1) | exact HB.out))) : w.heap.size ≤ gb133)); have n4_ := Aside0.mk ((by rw [hg]; exact (below_size (by repeat (first | (with_reducible first | exact HB.out | apply below_alloc | apply pw_below_drewN | apply below_drew1) | exact HB.out))) : w.heap.size ≤ gb133)); clear HO_3; clear HB; have HO_3 := n0_; have HB := n1_; have BK133 := n2_; have GW133 := n3_; have GE133 := n4_; clear n0_ n1_ n2_ n3_ n4_; clear hb hbox hg; have hcz8_0 : w7.cell? ⟨gb133, 0, none⟩ = some (.int .i64 0) := (blk_cell BK133.out 0).trans rfl; have hcz8_1 : w7.cell? ⟨gb133, 1, none⟩ = some (.int .i64 0) := (blk_cell BK133.out 1).trans rfl; have hcz8_2 : w7.cell? ⟨gb133, 2, none⟩ = some (.bool false) := (blk_cell BK133.out 2).trans rfl; have hcz8_3 : w7.cell? ⟨gb133, 3, none⟩ = some (.int .i64 0) := (blk_cell BK133.out 3).trans rfl; have hcz8_4 : w7.cell? ⟨gb133, 4, none⟩ = some (.int .u64 0) := (blk_cell BK133.out 4).trans rfl; have hcz8_5 : w7.cell? ⟨gb133, 5, none⟩ = some (.int .u64 0) := (blk_cell BK133.out 5).trans rfl; have hcz8_6 : w7.cell? ⟨gb133, 6, none⟩ = some (.int .i64 0) := (blk_cell BK133.out 6).trans rfl; have hcz8_7 : w7.cell? ⟨gb133, 7, none⟩ = some (.int .i64 0) := (blk_cell BK133.out 7).trans rfl; have hcz8_8 : w7.cell? ⟨gb133, 8, none⟩ = some (.bool false) := (blk_cell BK133.out 8).trans rfl; have hcz8_9 : w7.cell? ⟨gb133, 9, none⟩ = some (.bool false) := (blk_cell BK133.out 9).trans rfl; have hcz8_10 : w7.cell? ⟨gb133, 10, none⟩ = some (.int .i64 0) := (blk_cell BK133.out 10).trans rfl; have hcz8_11 : w7.cell? ⟨gb133, 11, none⟩ = some (.bool false) := (blk_cell BK133.out 11).trans rfl; have hcz8_12 : w7.cell? ⟨gb133, 12, none⟩ = some (.int .u64 0) := (blk_cell BK133.out 12).trans rfl; have hfz8_0 := blk_frozen BK133.out 0; have hfz8_1 := blk_frozen BK133.out 1; have hfz8_2 := blk_frozen BK133.out 2; have hfz8_3 := blk_frozen BK133.out 3; have hfz8_4 := blk_frozen BK133.out 4; have hfz8_5 := blk_frozen BK133.out 5; have hfz8_6 := blk_frozen BK133.out 6; have hfz8_7 := blk_frozen BK133.out 7; have hfz8_8 := blk_frozen BK133.out 8; have hfz8_9 := blk_frozen BK133.out 9; have hfz8_10 := blk_frozen BK133.out 10; have hfz8_11 := blk_frozen BK133.out 11; have hfz8_12 := blk_frozen BK133.out 12) | ((with_reducible refine gate_builtin (b := .append) (xs := #[.tmp 17, .tmp 33]) rfl ?_); at_builtin; refine Kd.R_append k82 (w0 := w) w.heap.size rfl (.tmp 17) (.tmp 33) 58 82 (.agg #[(.int .i64 0), (.bool false), (.int .i64 0), (.int .u64 0), (.int .u64 0), (.int .i64 0), (.int .i64 0), (.bool false), (.bool false), (.int .i64 0), (.bool false), (.int .u64 0)]) 88 rfl Tryd.underlying58 info82 rfl (by decide) (by omega) u3 x3_1 (⟨(rd_T78 l0 x4_1).f1, (rd_T78 l0 x4_1).f2, (⟨(rd_T78 l0 x4_1).f3.f0, (rd_T78 l0 x4_1).f3.f1, (rd_T78 l0 x4_1).f3.f2, (rd_T78 l0 x4_1).f3.f3⟩ : S73), (rd_T78 l0 x4_1).f4, (rd_T78 l0 x4_1).f5, (rd_T78 l0 x4_1).f6, (⟨(rd_T78 l0 x4_1).f7.f0, (rd_T78 l0 x4_1).f7.f1, (rd_T78 l0 x4_1).f7.f2⟩ : S76)⟩ : S82) [.int .i64 ((rd_T78 l0 x4_1).f1), .bool ((rd_T78 l0 x4_1).f2), .int .i64 ((rd_T78 l0 x4_1).f3.f0), .int .u64 ((rd_T78 l0 x4_1).f3.f1), .int .u64 ((rd_T78 l0 x4_1).f3.f2), .int .i64 ((rd_T78 l0 x4_1).f3.f3), .int .i64 ((rd_T78 l0 x4_1).f4), .bool ((rd_T78 l0 x4_1).f5), .bool ((rd_T78 l0 x4_1).f6), .int .i64 ((rd_T78 l0 x4_1).f7.f0), .bool ((rd_T78 l0 x4_1).f7.f1), .int .u64 ((rd_T78 l0 x4_1).f7.f2)] (fun _ => True) (fun _ => False) rfl (by first | (go_simp; done) | (go_simp; rfl)) ?aP (fun _ hk => hk.elim) ?aF ?aO ?aB ?aS ?aL ?_; (case aP => exact k82_mkM _ _ _ (⟨(rd_T78 l0 x4_1).f1, (rd_T78 l0 x4_1).f2, (⟨(rd_T78 l0 x4_1).f3.f0, (rd_T78 l0 x4_1).f3.f1, (rd_T78 l0 x4_1).f3.f2, (rd_T78 l0 x4_1).f3.f3⟩ : S73), (rd_T78 l0 x4_1).f4, (rd_T78 l0 x4_1).f5, (rd_T78 l0 x4_1).f6, (⟨(rd_T78 l0 x4_1).f7.f0, (rd_T78 l0 x4_1).f7.f1, (rd_T78 l0 x4_1).f7.f2⟩ : S76)⟩ : S82)); (case aB => exact (by repeat (first | (with_reducible first | exact HB.out | apply below_alloc | apply pw_below_drewN | apply below_drew1 | refine below_set ?_ GE133.out) | exact HB.out))); (case aF => exact (fun _ _ => trivial)); (case aO => exact (by (with_reducible repeat (first | apply Kd.R_alloc | apply Kd.R_drewN | apply Kd.R_drew)); exact Kd.R_mono (Kd.R_far (p := ⟨gb133, 12, none⟩) (Kd.R_far (p := ⟨gb133, 11, none⟩) (Kd.R_far (p := ⟨gb133, 10, none⟩) (Kd.R_far (p := ⟨gb133, 9, none⟩) (Kd.R_far (p := ⟨gb133, 8, none⟩) (Kd.R_far (p := ⟨gb133, 7, none⟩) (Kd.R_far (p := ⟨gb133, 6, none⟩) (Kd.R_far (p := ⟨gb133, 5, none⟩) (Kd.R_far (p := ⟨gb133, 4, none⟩) (Kd.R_far (p := ⟨gb133, 3, none⟩) (Kd.R_far (p := ⟨gb133, 2, none⟩) (Kd.R_far (p := ⟨gb133, 1, none⟩) (Kd.R_far (p := ⟨gb133, 0, none⟩) (Kd.R_types HO_3.out BK133.out (by decide)) (fun _ hk => hk.2) (.int .i64 ((rd_T78 l0 x4_1).f0))) (fun _ hk => hk.2) (.int .i64 ((rd_T78 l0 x4_1).f1))) (fun _ hk => hk.2) (.bool ((rd_T78 l0 x4_1).f2))) (fun _ hk => hk.2) (.int .i64 ((rd_T78 l0 x4_1).f3.f0))) (fun _ hk => hk.2) (.int .u64 ((rd_T78 l0 x4_1).f3.f1))) (fun _ hk => hk.2) (.int .u64 ((rd_T78 l0 x4_1).f3.f2))) (fun _ hk => hk.2) (.int .i64 ((rd_T78 l0 x4_1).f3.f3))) (fun _ hk => hk.2) (.int .i64 ((rd_T78 l0 x4_1).f4))) (fun _ hk => hk.2) (.bool ((rd_T78 l0 x4_1).f5))) (fun _ hk => hk.2) (.bool ((rd_T78 l0 x4_1).f6))) (fun _ hk => hk.2) (.int .i64 ((rd_T78 l0 x4_1).f7.f0))) (fun _ hk => hk.2) (.bool ((rd_T78 l0 x4_1).f7.f1))) (fun _ hk => hk.2) (.int .u64 ((rd_T78 l0 x4_1).f7.f2))) (fun _ hk => trivial))); (case aS => exact (below_size (by repeat (first | (with_reducible first | exact HB.out | apply below_alloc | apply pw_below_drewN | apply below_drew1 | refine below_set ?_ GE133.out) | exact HB.out)))); (case aL => have := LMc6.out; omega); intro v135 w9 ho hb hg hat; rw [← Ny134.out] at ho; have n0_ := Aside0.mk (blk_grown (g := gb133) (o := .cells #[.int .i64 ((rd_T78 l0 x4_1).f0), .int .i64 ((rd_T78 l0 x4_1).f1), .bool ((rd_T78 l0 x4_1).f2), .int .i64 ((rd_T78 l0 x4_1).f3.f0), .int .u64 ((rd_T78 l0 x4_1).f3.f1), .int .u64 ((rd_T78 l0 x4_1).f3.f2), .int .i64 ((rd_T78 l0 x4_1).f3.f3), .int .i64 ((rd_T78 l0 x4_1).f4), .bool ((rd_T78 l0 x4_1).f5), .bool ((rd_T78 l0 x4_1).f6), .int .i64 ((rd_T78 l0 x4_1).f7.f0), .bool ((rd_T78 l0 x4_1).f7.f1), .int .u64 ((rd_T78 l0 x4_1).f7.f2)] 78 (0, 0)) (by (with_reducible repeat (first | refine blk_drewN ?_ _ | refine blk_drew ?_ | refine blk_alloc ?_ _)); refine blk_put (cs := #[.int .i64 ((rd_T78 l0 x4_1).f0), .int .i64 ((rd_T78 l0 x4_1).f1), .bool ((rd_T78 l0 x4_1).f2), .int .i64 ((rd_T78 l0 x4_1).f3.f0), .int .u64 ((rd_T78 l0 x4_1).f3.f1), .int .u64 ((rd_T78 l0 x4_1).f3.f2), .int .i64 ((rd_T78 l0 x4_1).f3.f3), .int .i64 ((rd_T78 l0 x4_1).f4), .bool ((rd_T78 l0 x4_1).f5), .bool ((rd_T78 l0 x4_1).f6), .int .i64 ((rd_T78 l0 x4_1).f7.f0), .bool ((rd_T78 l0 x4_1).f7.f1), .int .u64 0]) ?_ 12 _ rfl; (with_reducible repeat (first | refine blk_drewN ?_ _ | refine blk_drew ?_ | refine blk_alloc ?_ _)); refine blk_put (cs := #[.int .i64 ((rd_T78 l0 x4_1).f0), .int .i64 ((rd_T78 l0 x4_1).f1), .bool ((rd_T78 l0 x4_1).f2), .int .i64 ((rd_T78 l0 x4_1).f3.f0), .int .u64 ((rd_T78 l0 x4_1).f3.f1), .int .u64 ((rd_T78 l0 x4_1).f3.f2), .int .i64 ((rd_T78 l0 x4_1).f3.f3), .int .i64 ((rd_T78 l0 x4_1).f4), .bool ((rd_T78 l0 x4_1).f5), .bool ((rd_T78 l0 x4_1).f6), .int .i64 ((rd_T78 l0 x4_1).f7.f0), .bool false, .int .u64 0]) ?_ 11 _ rfl; (with_reducible repeat (first | refine blk_drewN ?_ _ | refine blk_drew ?_ | refine blk_alloc ?_ _)); refine blk_put (cs := #[.int .i64 ((rd_T78 l0 x4_1).f0), .int .i64 ((rd_T78 l0 x4_1).f1), .bool ((rd_T78 l0 x4_1).f2), .int .i64 ((rd_T78 l0 x4_1).f3.f0), .int .u64 ((rd_T78 l0 x4_1).f3.f1), .int .u64 ((rd_T78 l0 x4_1).f3.f2), .int .i64 ((rd_T78 l0 x4_1).f3.f3), .int .i64 ((rd_T78 l0 x4_1).f4), .bool ((rd_T78 l0 x4_1).f5), .bool ((rd_T78 l0 x4_1).f6), .int .i64 0, .bool false, .int .u64 0]) ?_ 10 _ rfl; (with_reducible repeat (first | refine blk_drewN ?_ _ | refine blk_drew ?_ | refine blk_alloc ?_ _)); refine blk_put (cs := #[.int .i64 ((rd_T78 l0 x4_1).f0), .int .i64 ((rd_T78 l0 x4_1).f1), .bool ((rd_T78 l0 x4_1).f2), .int .i64 ((rd_T78 l0 x4_1).f3.f0), .int .u64 ((rd_T78 l0 x4_1).f3.f1), .int .u64 ((rd_T78 l0 x4_1).f3.f2), .int .i64 ((rd_T78 l0 x4_1).f3.f3), .int .i64 ((rd_T78 l0 x4_1).f4), .bool ((rd_T78 l0 x4_1).f5), .bool false, .int .i64 0, .bool false, .int .u64 0]) ?_ 9 _ rfl; (with_reducible repeat (first | refine blk_drewN ?_ _ | refine blk_drew ?_ | refine blk_alloc ?_ _)); refine blk_put (cs := #[.int .i64 ((rd_T78 l0 x4_1).f0), .int .i64 ((rd_T78 l0 x4_1).f1), .bool ((rd_T78 l0 x4_1).f2), .int .i64 ((rd_T78 l0 x4_1).f3.f0), .int .u64 ((rd_T78 l0 x4_1).f3.f1), .int .u64 ((rd_T78 l0 x4_1).f3.f2), .int .i64 ((rd_T78 l0 x4_1).f3.f3), .int .i64 ((rd_T78 l0 x4_1).f4), .bool false, .bool false, .int .i64 0, .bool false, .int .u64 0]) ?_ 8 _ rfl; (with_reducible repeat (first | refine blk_drewN ?_ _ | refine blk_drew ?_ | refine blk_alloc ?_ _)); refine blk_put (cs := #[.int .i64 ((rd_T78 l0 x4_1).f0), .int .i64 ((rd_T78 l0 x4_1).f1), .bool ((rd_T78 l0 x4_1).f2), .int .i64 ((rd_T78 l0 x4_1).f3.f0), .int .u64 ((rd_T78 l0 x4_1).f3.f1), .int .u64 ((rd_T78 l0 x4_1).f3.f2), .int .i64 ((rd_T78 l0 x4_1).f3.f3), .int .i64 0, .bool false, .bool false, .int .i64 0, .bool false, .int .u64 0]) ?_ 7 _ rfl; (with_reducible repeat (first | refine blk_drewN ?_ _ | refine blk_drew ?_ | refine blk_alloc ?_ _)); refine blk_put (cs := #[.int .i64 ((rd_T78 l0 x4_1).f0), .int .i64 ((rd_T78 l0 x4_1).f1), .bool ((rd_T78 l0 x4_1).f2), .int .i64 ((rd_T78 l0 x4_1).f3.f0), .int .u64 ((rd_T78 l0 x4_1).f3.f1), .int .u64 ((rd_T78 l0 x4_1).f3.f2), .int .i64 0, .int .i64 0, .bool false, .bool false, .int .i64 0, .bool false, .int .u64 0]) ?_ 6 _ rfl; (with_reducible repeat (first | refine blk_drewN ?_ _ | refine blk_drew ?_ | refine blk_alloc ?_ _)); refine blk_put (cs := #[.int .i64 ((rd_T78 l0 x4_1).f0), .int .i64 ((rd_T78 l0 x4_1).f1), .bool ((rd_T78 l0 x4_1).f2), .int .i64 ((rd_T78 l0 x4_1).f3.f0), .int .u64 ((rd_T78 l0 x4_1).f3.f1), .int .u64 0, .int .i64 0, .int .i64 0, .bool false, .bool false, .int .i64 0, .bool false, .int .u64 0]) ?_ 5 _ rfl; (with_reducible repeat (first | refine blk_drewN ?_ _ | refine blk_drew ?_ | refine blk_alloc ?_ _)); refine blk_put (cs := #[.int .i64 ((rd_T78 l0 x4_1).f0), .int .i64 ((rd_T78 l0 x4_1).f1), .bool ((rd_T78 l0 x4_1).f2), .int .i64 ((rd_T78 l0 x4_1).f3.f0), .int .u64 0, .int .u64 0, .int .i64 0, .int .i64 0, .bool false, .bool false, .int .i64 0, .bool false, .int .u64 0]) ?_ 4 _ rfl; (with_reducible repeat (first | refine blk_drewN ?_ _ | refine blk_drew ?_ | refine blk_alloc ?_ _)); refine blk_put (cs := #[.int .i64 ((rd_T78 l0 x4_1).f0), .int .i64 ((rd_T78 l0 x4_1).f1), .bool ((rd_T78 l0 x4_1).f2), .int .i64 0, .int .u64 0, .int .u64 0, .int .i64 0, .int .i64 0, .bool false, .bool false, .int .i64 0, .bool false, .int .u64 0]) ?_ 3 _ rfl; (with_reducible repeat (first | refine blk_drewN ?_ _ | refine blk_drew ?_ | refine blk_alloc ?_ _)); refine blk_put (cs := #[.int .i64 ((rd_T78 l0 x4_1).f0), .int .i64 ((rd_T78 l0 x4_1).f1), .bool false, .int .i64 0, .int .u64 0, .int .u64 0, .int .i64 0, .int .i64 0, .bool false, .bool false, .int .i64 0, .bool false, .int .u64 0]) ?_ 2 _ rfl; (with_reducible repeat (first | refine blk_drewN ?_ _ | refine blk_drew ?_ | refine blk_alloc ?_ _)); refine blk_put (cs := #[.int .i64 ((rd_T78 l0 x4_1).f0), .int .i64 0, .bool false, .int .i64 0, .int .u64 0, .int .u64 0, .int .i64 0, .int .i64 0, .bool false, .bool false, .int .i64 0, .bool false, .int .u64 0]) ?_ 1 _ rfl; (with_reducible repeat (first | refine blk_drewN ?_ _ | refine blk_drew ?_ | refine blk_alloc ?_ _)); refine blk_put (cs := #[.int .i64 0, .int .i64 0, .bool false, .int .i64 0, .int .u64 0, .int .u64 0, .int .i64 0, .int .i64 0, .bool false, .bool false, .int .i64 0, .bool false, .int .u64 0]) ?_ 0 _ rfl; (with_reducible repeat (first | refine blk_drewN ?_ _ | refine blk_drew ?_ | refine blk_alloc ?_ _)); exact BK133.out) hg (Kd.R_ne HO_3.out BK133.out (by decide))); have n1_ := Aside0.mk (hb); have n2_ := Aside0.mk (ho); clear BK133; clear HB; clear HO_3; have BK133 := n0_; have HB := n1_; have HO136 := n2_; clear n0_ n1_ n2_; clear ho hb hg hat))
            go_roundg k1
            case measure => have := HK1.out; omega
            case rel => exact ⟨(y134), (wrap64 (x4_1 + 1)), (by first | rfl | (simp; done) | (simp [*]; done)), H', ⟨by have := HK1.out; omega⟩, ⟨by (with_reducible repeat (first | apply Kd.R_alloc | apply Kd.R_drewN | apply Kd.R_drew)); exact HO136.out⟩, ⟨by repeat (first | (with_reducible first | exact HB.out | apply below_alloc | apply pw_below_drewN | apply below_drew1 | refine below_set ?_ GE133.out) | exact HB.out)⟩⟩
          · rw [if_neg c6] at H
            exact absurd H (by simp)
        · rw [if_neg c5] at H
          exact absurd H (by simp)
      · rw [if_neg c4] at H
        have c4b0 : decide (x4_1 < (l0.length : Int)) = false := decide_eq_false c4
        clear c4
        obtain rfl := Option.some.inj H
        go_wp2
        go_ret
        exact ⟨_, by first | rfl | (simp [errW_none, errW_some] <;> rfl) | (simp [*, errW_none, errW_some] <;> rfl), by (with_reducible repeat (first | apply Kd.R_alloc | apply Kd.R_drewN | apply Kd.R_drew)); exact HO_3.out, by repeat (first | (with_reducible first | exact HB.out | apply below_alloc | apply pw_below_drewN | apply below_drew1) | exact HB.out)⟩

-- NOT PRINTED: function 31 (revenantlaw35_form)

/-! ### revenantref32_Num: function 53 -/
def revenantref32_Num.l0 : Nat → Int → ByteArray → Option (ByteArray)
  | 0, _, _ => none
  | k + 1, x0, x3 => if x0 ≥ 10 then ((some (([(IntKind.u64.wrap (48 + (Int.tmod (IntKind.u64.wrap (Int.tdiv x0 10)) 10))) % 256] : List Int) : List Int)).bind fun y140 => (if (strOfNums y140).size + x3.size ≤ 9223372036854775807 then (revenantref32_Num.l0 k (IntKind.u64.wrap (Int.tdiv x0 10)) ((strOfNums y140) ++ x3)) else (none))) else (some x3)
def revenantref32_Num.f (k : Nat) (a0 : Int) : Option (ByteArray) := revenantref32_Num.l0 k a0 (strOfNums (([(IntKind.u64.wrap (48 + (Int.tmod a0 10))) % 256] : List Int)))
theorem revenantref32_Num.mono_l : ∀ k, (∀ y0 y1, LeO (revenantref32_Num.l0 k y0 y1) (revenantref32_Num.l0 (k + 1) y0 y1))
  | 0 => fun _ _ r h => by simp [revenantref32_Num.l0] at h
  | k + 1 => by
    have ih0 := revenantref32_Num.mono_l k
    · intro y0 y1
      unfold revenantref32_Num.l0
      repeat' first
      | (with_reducible exact ih0 _ _)
      | (with_reducible exact LeO.refl _)
      | (with_reducible exact LeO.none _)
      | (with_reducible refine LeO.ite ?_ ?_)
      | (with_reducible refine LeO.bind ?_ (fun _ => ?_))
      | exact ih0 _ _
      | exact LeO.none _
      | refine LeO.ite ?_ ?_
      | refine LeO.bind ?_ (fun _ => ?_)
theorem revenantref32_Num.mono : ∀ a0 k, LeO (revenantref32_Num.f k a0) (revenantref32_Num.f (k + 1) a0) := by
  intro a0 k
  have ih0 := revenantref32_Num.mono_l k
  unfold revenantref32_Num.f
  repeat' first
      | (with_reducible exact ih0 _ _)
      | (with_reducible exact LeO.refl _)
      | (with_reducible exact LeO.none _)
      | (with_reducible refine LeO.ite ?_ ?_)
      | (with_reducible refine LeO.bind ?_ (fun _ => ?_))
      | exact ih0 _ _
      | exact LeO.none _
      | refine LeO.ite ?_ ?_
      | refine LeO.bind ?_ (fun _ => ?_)
set_option maxHeartbeats 8000000 in
set_option maxRecDepth 100000 in
theorem revenantref32_Num.calls (k : Nat) (a0 : Int) (r : ByteArray) (w : World) (h : revenantref32_Num.f k a0 = some r) :
    Calls Tryd.prog 53 #[.int .u64 a0] w fun e w' => e = .returned (.string r) ∧ Below w.heap.size w w' := by
  have HB := Aside0.mk (Below.refl w.heap.size w)
  have H : (revenantref32_Num.l0 k a0 (strOfNums (([(IntKind.u64.wrap (48 + (Int.tmod a0 10))) % 256] : List Int)))) = some r := h
  clear h
  obtain ⟨y137, hy137⟩ : ∃ y_ : List Int, y_ = (([(IntKind.u64.wrap (48 + (Int.tmod a0 10))) % 256] : List Int)) := ⟨_, rfl⟩
  replace H : (revenantref32_Num.l0 k a0 (strOfNums y137)) = some r := by first | (rw [hy137]; with_reducible exact H) | (have H2_ := (Option.bind_some _ _).symm.trans H; rw [hy137]; with_reducible exact H2_) | (have H2_ := (Option.bind_some _ _).symm.trans H; with_reducible exact H2_) | with_reducible exact H | (rw [hy137]; exact H) | exact H
  have Ny137 := Aside0.mk hy137
  clear hy137
  have H' := Aside0.mk H
  clear H
  go_enter Tryd.func53, Tryd.ntmps53
  go_wp2_with (first | ((with_reducible refine gate_dst (N := 8) rfl ?_); refine Kd.R_lit (Kd.int .u8) _ 5 ?hg (N := 8) ?hd (xs := ([(IntKind.u64.wrap (48 + (Int.tmod a0 10))) % 256] : List Int)) (inner := [.int .u8 ((IntKind.u64.wrap (48 + (Int.tmod a0 10))) % 256)]) (ok := fun _ => True) (okp := fun _ => True) ?hr ?hp (fun _ hk => hk) trivial (Below.refl _ _) (Nat.le_refl _) (by simp) ?_; (case hd => rfl); (case hg => rfl); (case hr => first | (go_simp; done) | (go_simp; rfl)); (case hp => exact (Reps.one (show Kd.M (Kd.int .u8) _ _ _ ((IntKind.u64.wrap (48 + (Int.tmod a0 10))) % 256) [.int .u8 ((IntKind.u64.wrap (48 + (Int.tmod a0 10))) % 256)] from rfl) (Reps.none _ _))); intro v138 w2 ho3 hb hg_ hnew_; clear hg_ hnew_; (first | rw [← Ny137.out] at ho3 | (simp only [Int.reduceToNat] at ho3; rw [← Ny137.out] at ho3)); have n0_ := Aside0.mk (Kd.R_lower ho3 (below_size (by repeat (first | (with_reducible first | exact HB.out | apply below_alloc | apply pw_below_drewN | apply below_drew1) | exact HB.out)))); have n1_ := Aside0.mk (below_step (by repeat (first | (with_reducible first | exact HB.out | apply below_alloc | apply pw_below_drewN | apply below_drew1) | exact HB.out)) hb); clear HB; have HO139 := n0_; have HB := n1_; clear n0_ n1_; clear hb ho3; have hcv4 := own_string (P := Tryd.prog) Tryd.underlying93 Tryd.underlying5 Tryd.underlying9 (Kd.own_of_R HO139.out)))
  go_loopg [0, 3] k (fun kq v0 v3 w' => ∃ (x0_1 : Int) (x3_1 : ByteArray), v0 = .int .u64 x0_1 ∧ v3 = .string x3_1 ∧ Aside0 (revenantref32_Num.l0 kq x0_1 x3_1 = some r) ∧ Aside0 (kq ≤ k) ∧ Aside0 (Below w.heap.size w w'))
  case atStart => exact ⟨(a0), (strOfNums y137), (by first | rfl | (simp; done) | (simp [*]; done)), (by first | rfl | (simp; done) | (simp [*]; done)), H', ⟨Nat.le_refl _⟩, ⟨by repeat (first | (with_reducible first | exact HB.out | apply below_alloc | apply pw_below_drewN | apply below_drew1) | exact HB.out)⟩⟩
  case round =>
    clear H'
    try clear p2
    try clear hcv4
    obtain ⟨x0_1, x3_1, rfl, rfl, HA, HK1, HB⟩ := hrel
    cases gk with
    | zero => exact absurd HA.out (by simp [revenantref32_Num.l0])
    | succ k1 =>
      have H := HA.out
      clear HA
      simp only [revenantref32_Num.l0] at H
      by_cases c5 : x0_1 ≥ 10
      · rw [if_pos c5] at H
        have c5b0 : decide (10 ≤ x0_1) = true := decide_eq_true c5
        clear c5
        obtain ⟨y140, hy140⟩ : ∃ y_ : List Int, y_ = (([(IntKind.u64.wrap (48 + (Int.tmod (IntKind.u64.wrap (Int.tdiv x0_1 10)) 10))) % 256] : List Int)) := ⟨_, rfl⟩
        replace H : (if (strOfNums y140).size + x3_1.size ≤ 9223372036854775807 then (revenantref32_Num.l0 k1 (IntKind.u64.wrap (Int.tdiv x0_1 10)) ((strOfNums y140) ++ x3_1)) else (none)) = some r := by first | (rw [hy140]; with_reducible exact H) | (have H2_ := (Option.bind_some _ _).symm.trans H; rw [hy140]; with_reducible exact H2_) | (have H2_ := (Option.bind_some _ _).symm.trans H; with_reducible exact H2_) | with_reducible exact H | (rw [hy140]; exact H) | exact H
        have Ny140 := Aside0.mk hy140
        clear hy140
        by_cases c6 : (strOfNums y140).size + x3_1.size ≤ 9223372036854775807
        · rw [if_pos c6] at H
          have c6b0 := eq_true c6
          have c6b1 : decide ((strOfNums y140).size + x3_1.size ≤ 9223372036854775807) = true := decide_eq_true c6
          try have c6b2 : (9223372036854775807 < (strOfNums y140).size + x3_1.size) = False := eq_false (Nat.not_lt.2 c6)
          have H' := Aside0.mk H
          clear H
          go_wp2_with (first | ((with_reducible refine gate_dst (N := 18) rfl ?_); refine Kd.R_lit (Kd.int .u8) _ 5 ?hg (N := 18) ?hd (xs := ([(IntKind.u64.wrap (48 + (Int.tmod (IntKind.u64.wrap (Int.tdiv x0_1 10)) 10))) % 256] : List Int)) (inner := [.int .u8 ((IntKind.u64.wrap (48 + (Int.tmod (IntKind.u64.wrap (Int.tdiv x0_1 10)) 10))) % 256)]) (ok := fun _ => True) (okp := fun _ => True) ?hr ?hp (fun _ hk => hk) trivial (Below.refl _ _) (Nat.le_refl _) (by simp) ?_; (case hd => rfl); (case hg => rfl); (case hr => first | (go_simp; done) | (go_simp; rfl)); (case hp => exact (Reps.one (show Kd.M (Kd.int .u8) _ _ _ ((IntKind.u64.wrap (48 + (Int.tmod (IntKind.u64.wrap (Int.tdiv x0_1 10)) 10))) % 256) [.int .u8 ((IntKind.u64.wrap (48 + (Int.tmod (IntKind.u64.wrap (Int.tdiv x0_1 10)) 10))) % 256)] from rfl) (Reps.none _ _))); intro v141 w7 ho8 hb hg_ hnew_; clear hg_ hnew_; (first | rw [← Ny140.out] at ho8 | (simp only [Int.reduceToNat] at ho8; rw [← Ny140.out] at ho8)); have n0_ := Aside0.mk (Kd.R_lower ho8 (below_size (by repeat (first | (with_reducible first | exact HB.out | apply below_alloc | apply pw_below_drewN | apply below_drew1) | exact HB.out)))); have n1_ := Aside0.mk (below_step (by repeat (first | (with_reducible first | exact HB.out | apply below_alloc | apply pw_below_drewN | apply below_drew1) | exact HB.out)) hb); clear HB; have HO142 := n0_; have HB := n1_; clear n0_ n1_; clear hb ho8; have hcv9 := own_string (P := Tryd.prog) Tryd.underlying93 Tryd.underlying5 Tryd.underlying9 (Kd.own_of_R HO142.out)))
          go_roundg k1
          case measure => have := HK1.out; omega
          case rel => exact ⟨(IntKind.u64.wrap (Int.tdiv x0_1 10)), ((strOfNums y140) ++ x3_1), (by first | rfl | (simp; done) | (simp [*]; done)), (by first | rfl | (simp; done) | (simp [*]; done)), H', ⟨by have := HK1.out; omega⟩, ⟨by repeat (first | (with_reducible first | exact HB.out | apply below_alloc | apply pw_below_drewN | apply below_drew1) | exact HB.out)⟩⟩
        · rw [if_neg c6] at H
          exact absurd H (by simp)
      · rw [if_neg c5] at H
        have c5b0 : decide (10 ≤ x0_1) = false := decide_eq_false c5
        clear c5
        obtain rfl := Option.some.inj H
        go_wp2
        go_ret
        exact ⟨by first | rfl | (simp [errW_none, errW_some] <;> rfl) | (simp [*, errW_none, errW_some] <;> rfl), by repeat (first | (with_reducible first | exact HB.out | apply below_alloc | apply pw_below_drewN | apply below_drew1) | exact HB.out)⟩

/-! ### revenantref35_Num: function 46 -/
def revenantref35_Num.f (k : Nat) (a0 : Int) : Option (ByteArray) := if a0 < 0 then ((revenantref32_Num.f k (IntKind.u64.wrap (-(IntKind.u64.wrap (a0))))).bind fun t143 => (if 1 + t143.size ≤ 9223372036854775807 then (some ((⟨#[45]⟩ : ByteArray) ++ t143)) else (none))) else ((revenantref32_Num.f k (IntKind.u64.wrap (a0))).bind fun t144 => (some t144))
theorem revenantref35_Num.mono : ∀ a0 k, LeO (revenantref35_Num.f k a0) (revenantref35_Num.f (k + 1) a0) := by
  intro a0 k
  unfold revenantref35_Num.f
  repeat' first
      | (with_reducible exact revenantref32_Num.mono _ _)
      | (with_reducible exact LeO.refl _)
      | (with_reducible exact LeO.none _)
      | (with_reducible refine LeO.ite ?_ ?_)
      | (with_reducible refine LeO.bind ?_ (fun _ => ?_))
      | exact revenantref32_Num.mono _ _
      | exact LeO.none _
      | refine LeO.ite ?_ ?_
      | refine LeO.bind ?_ (fun _ => ?_)
set_option maxHeartbeats 8000000 in
set_option maxRecDepth 100000 in
theorem revenantref35_Num.calls (k : Nat) (a0 : Int) (r : ByteArray) (w : World) (h : revenantref35_Num.f k a0 = some r) :
    Calls Tryd.prog 46 #[.int .i64 a0] w fun e w' => e = .returned (.string r) ∧ Below w.heap.size w w' := by
  have HB := Aside0.mk (Below.refl w.heap.size w)
  have H : (if a0 < 0 then ((revenantref32_Num.f k (IntKind.u64.wrap (-(IntKind.u64.wrap (a0))))).bind fun t143 => (if 1 + t143.size ≤ 9223372036854775807 then (some ((⟨#[45]⟩ : ByteArray) ++ t143)) else (none))) else ((revenantref32_Num.f k (IntKind.u64.wrap (a0))).bind fun t144 => (some t144))) = some r := h
  clear h
  by_cases c2 : a0 < 0
  · rw [if_pos c2] at H
    have c2b0 : decide (a0 < 0) = true := decide_eq_true c2
    clear c2
    replace H := Option.bind_eq_some_iff.mp H
    obtain ⟨t143, A30, H⟩ := H
    replace H : (if 1 + t143.size ≤ 9223372036854775807 then (some ((⟨#[45]⟩ : ByteArray) ++ t143)) else (none)) = some r := H
    have A3 := Aside0.mk A30
    clear A30
    by_cases c4 : 1 + t143.size ≤ 9223372036854775807
    · rw [if_pos c4] at H
      have c4b0 := eq_true c4
      have c4b1 : decide (1 + t143.size ≤ 9223372036854775807) = true := decide_eq_true c4
      try have c4b2 : (9223372036854775807 < 1 + t143.size) = False := eq_false (Nat.not_lt.2 c4)
      obtain rfl := Option.some.inj H
      go_enter Tryd.func46, Tryd.ntmps46
      go_wp2_with (first | ((with_reducible refine gate_callee (f := 53) rfl ?_); refine goesL_ (some 8) rfl rfl Tryd.func53 (by kernel_rfl) rfl #[.int .u64 (IntKind.u64.wrap (-(IntKind.u64.wrap (a0))))] rfl (by (try simp only [List.map_toArray, List.map_cons, List.map_nil]); first | done | rfl | (simp only [List.length_drop, List.length_take]; rfl)) ?_; (with_reducible refine (revenantref32_Num.calls k (IntKind.u64.wrap (-(IntKind.u64.wrap (a0)))) t143 _ A3.out).mono ?_); rintro e w5 ⟨rfl, hb⟩; refine ⟨_, rfl, ?_⟩; have n0_ := Aside0.mk (below_step (by repeat (first | (with_reducible first | exact HB.out | apply below_alloc | apply pw_below_drewN | apply below_drew1) | exact HB.out)) hb); clear HB; have HB := n0_; clear n0_; (try clear hb); (try clear hb2); (try clear hk); (try clear hi)))
      go_ret
      exact ⟨by first | rfl | (simp [errW_none, errW_some] <;> rfl) | (simp [*, errW_none, errW_some] <;> rfl), by repeat (first | (with_reducible first | exact HB.out | apply below_alloc | apply pw_below_drewN | apply below_drew1) | exact HB.out)⟩
    · rw [if_neg c4] at H
      exact absurd H (by simp)
  · rw [if_neg c2] at H
    have c2b0 : decide (a0 < 0) = false := decide_eq_false c2
    clear c2
    replace H := Option.bind_eq_some_iff.mp H
    obtain ⟨t144, A60, H⟩ := H
    replace H : (some t144) = some r := H
    have A6 := Aside0.mk A60
    clear A60
    obtain rfl := Option.some.inj H
    go_enter Tryd.func46, Tryd.ntmps46
    go_wp2_with (first | ((with_reducible refine gate_callee (f := 53) rfl ?_); refine goesL_ (some 12) rfl rfl Tryd.func53 (by kernel_rfl) rfl #[.int .u64 (IntKind.u64.wrap (a0))] rfl (by (try simp only [List.map_toArray, List.map_cons, List.map_nil]); first | done | rfl | (simp only [List.length_drop, List.length_take]; rfl)) ?_; (with_reducible refine (revenantref32_Num.calls k (IntKind.u64.wrap (a0)) t144 _ A6.out).mono ?_); rintro e w7 ⟨rfl, hb⟩; refine ⟨_, rfl, ?_⟩; have n0_ := Aside0.mk (below_step (by repeat (first | (with_reducible first | exact HB.out | apply below_alloc | apply pw_below_drewN | apply below_drew1) | exact HB.out)) hb); clear HB; have HB := n0_; clear n0_; (try clear hb); (try clear hb2); (try clear hk); (try clear hi)))
    go_ret
    exact ⟨by first | rfl | (simp [errW_none, errW_some] <;> rfl) | (simp [*, errW_none, errW_some] <;> rfl), by repeat (first | (with_reducible first | exact HB.out | apply below_alloc | apply pw_below_drewN | apply below_drew1) | exact HB.out)⟩

-- NOT PRINTED: function 34 (revenantref35_Lines)

-- NOT PRINTED: function 7 (revenantlaw35_TallyExact)
end Go.Proofs.YtcncndhoeiaoeaaDoor.PTallyExact
