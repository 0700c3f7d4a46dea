import Derived.LaidMore
import Derived.LaidLaws
import Derived.MakeChecks
import Derived.Lib.LaidTab
import Derived.Stop.LaidErr
import Derived.Shelf.Vars
import Derived.HandedShaped
import Derived.Test.YtinmmnljicmppaaDoorRows
import Derived.Test.YtinmmnljicmppaaDoorVTaleLawT
import Derived.Test.YtinmmnljicmppaaDoorVWords
/-
The rows' laid variables; the law TaleTells in the row's words.
-/
namespace Go.Proofs.YtinmmnljicmppaaDoor.PTaleApart
open Go Go.RowKit Go.Proofs.YtinmmnljicmppaaDoorW.PrintWords Go.Proofs.YtinmmnljicmppaaDoorW.PrintLast Go.Proofs.YtinmmnljicmppaaDoorW.PrintMore Go.Proofs.YtinmmnljicmppaaDoor.Str
set_option linter.unusedVariables false
set_option linter.unusedSimpArgs false
theorem wrap_shape {H : Type} {enc : TypeId × Value → H} {a : Assume} {C : Checked} {os : Os} {f : FuncId} {fn : Func} {s : ChangeSpec} {conds : List PathCond} {apart fresh handsOn again : Bool} {X : World → Array Value → Prop}
  (same : ∀ (u v : World) (xs : Array Value), u.heap = v.heap → X u xs → X v xs) (own : ownKnob C.prog.godebug = none) (started : os.Started) (first : C.prog.inits.idxOf? f = none) (at_ : C.prog.funcs[f]? = some fn)
  (some_ : ∃ (w : World) (tape : Tape) (i : Input), w.os = os ∧ (w.forCall tape i).Shaped C.prog ∧ i.vars = [] ∧ Input.okWide C.prog (w.forCall tape i) .any w.heap.size f i ∧ ((s.pre enc C.prog fn conds apart (w.forCall tape i).memory i.args ∧ X (w.forCall tape i).memory i.args) ∧ sizedMet enc C.prog fn (OpenSpec.ofChange s) apart (w.forCall tape i).memory i.args) ∧ a.holds C.prog (lone (Frame.enter C.prog f i.args .normal) [] (w.forCall tape i)))
  (every : ∀ (W : World) (base : Nat) (args : Array Value) (ds gs : List (DataW H)) (before : List MemPlace), (∀ (j : Nat) t v, fn.params[j]? = some t → args[j]? = some v → Value.okWide C.prog W .any base t v) → DataW.Whole enc C.prog fn.params.toList s.vars apart W args.toList ds gs before → conds.all (PathCond.test C.prog ⟨fn.params.toList, ds, s.plain.varTypes C.prog, gs⟩) = true → (DataW.weightsEach C.prog (fn.params.toList ++ s.plain.varTypes C.prog) (ds ++ gs)).all (· ≤ reachBytes) = true → X W args → W.ShapedOpen C.prog → a.holds C.prog (lone (Frame.enter C.prog f args .normal) [] W) → Calls C.prog f args W fun e W' => ∃ v, e = .returned v ∧ s.post enc C.prog fn apart fresh handsOn again W args v W') :
  ReturnsInHanded a C os f .any (fun w args => (s.pre enc C.prog fn conds apart w args ∧ X w args) ∧ sizedMet enc C.prog fn (OpenSpec.ofChange s) apart w args) (s.post enc C.prog fn apart fresh handsOn again) :=
 returnsInHanded_of_calls own started first some_ fun w tape i _ shape _ good pre_ held => by
  have hfn : ∃ g, C.prog.funcs[f]? = some g ∧ ∀ (j : Nat) t v, g.params[j]? = some t → i.args[j]? = some v → Value.okWide C.prog (w.forCall tape i) .any w.heap.size t v := by
   obtain ⟨_, _, _, g, hg, _, _, _, _, hv⟩ := good
   exact ⟨g, hg, hv⟩
  obtain ⟨g, hg, typed⟩ := hfn
  rw [at_] at hg
  cases hg
  rcases pre_ with ⟨⟨⟨ds, gs, before, read, met⟩, laid⟩, sized⟩
  have read2 := DataW.Whole.of_heap (w' := w.forCall tape i) (by rfl) read
  have laid2 := same _ (w.forCall tape i) _ (by rfl) laid
  refine (every (w.forCall tape i) w.heap.size i.args ds gs before typed read2 met (sized.weights read) laid2 shape held).mono ?_
  rintro e W' ⟨v, rfl, post⟩
  exact ChangeSpec.post_blind post
theorem star_err : "*" ++ "errors.errorString" = "*errors.errorString" := by decide
theorem row_err (u : TypeId) (h : Tryd.prog.typeName? 3 u = some "*errors.errorString") : u = 145 :=
 typeName_ptr_named (nm := "errors.errorString") (by rw [star_err]; kernel_rfl) (by kernel_rfl) (by decide) u (by rw [star_err]; exact h)
theorem cell_of_var {W : World} {n : String} {g : Nat} {v : Value} (hg : Tryd.prog.globalNamed n = some g) (h : W.var? Tryd.prog n = some #[v]) : W.cell? ⟨g, 0, none⟩ = some v := by
 unfold World.var? at h
 rw [hg] at h
 simp only [Option.bind_some] at h
 split at h
 ·rename_i cs t fr hh
  injection h with h
  subst h
  rw [cell_of_row W g 0 _ t fr hh]
  rfl
 ·cases h
theorem wt_of {W : World} {d1 d2 d3 d4 : String × DataW Unit} (h : laidMet Tryd.prog (d1 :: d2 :: ("internal/strconv.uint64pow10", Lib.tabData .u64 Lib.pow10Tab) :: d3 :: ("strconv.ErrRange", Rows.laid_strconv_ErrRange) :: ("strconv.ErrSyntax", Rows.laid_strconv_ErrSyntax) :: d4 :: []) W) (hs : W.ShapedOpen Tryd.prog) : WT W := by
 have h2 := laidMet.tail (laidMet.tail h)
 have h4 := laidMet.tail (laidMet.tail h2)
 have h5 := laidMet.tail h4
 refine ⟨Lib.tabIs_of_head (zs := Lib.pow10Tab) (t := 127) (e := 23) (n := 20) gTab (by kernel_rfl) Tryd.underlying127 Tryd.underlying23 (by kernel_rfl) (by kernel_rfl) h2, ?_, ?_, ?_⟩
 ·exact cell_of_shapedOpen_int (g := 1) (t := 3) (zero := #[.int .i64 0]) (k := .i64) hs (of_decide_eq_true (by kernel_rfl)) (by kernel_rfl) rfl (by kernel_rfl) (by kernel_rfl) Tryd.underlying3
 ·obtain ⟨ad, s, hv, _⟩ := laid_sentinel h5 (g := 2) (ti := 84) (tp := 145) (te := 147) (ts := 9) (by kernel_rfl) (by kernel_rfl) Tryd.underlying84 row_err Tryd.underlying145 Tryd.underlying147 rfl rfl Tryd.underlying9 (by kernel_rfl) (by kernel_rfl)
  exact ⟨_, _, cell_of_var (by kernel_rfl) hv⟩
 ·obtain ⟨ad, s, hv, _⟩ := laid_sentinel h4 (g := 3) (ti := 84) (tp := 145) (te := 147) (ts := 9) (by kernel_rfl) (by kernel_rfl) Tryd.underlying84 row_err Tryd.underlying145 Tryd.underlying147 rfl rfl Tryd.underlying9 (by kernel_rfl) (by kernel_rfl)
  exact ⟨_, _, cell_of_var (by kernel_rfl) hv⟩
theorem apart_wt {W : World} (h : laidMetH Tryd.prog Rows.taleApartRow.laid W) (hs : W.ShapedOpen Tryd.prog) : WT W := by
 rw [MakeChecks.laidMetH_plain _ _ _ (by kernel_rfl)] at h
 exact wt_of h hs
end Go.Proofs.YtinmmnljicmppaaDoor.PTaleApart
