/-
Ops as the shared texts have them.
-/
import Derived.Test.YtcphmelmieedfaaPScriptExactx0
import Derived.Test.YtcphmelmieedfaaTurnsC
namespace Go.Proofs.Ytcphmelmieedfaa.PScriptExact
open Go Go.RowKit Go.Proofs.YtcphmelmieedfaaW.PrintWords Go.Proofs.YtcphmelmieedfaaW.PrintLast Go.Proofs.YtcphmelmieedfaaW.PrintMore
set_option linter.unusedVariables false
/-- An op, as the shared texts have it. -/
def cv (x : S37) : PScriptTurns.S37 := ⟨x.f0, x.f1, x.f2, x.f3⟩
def cvs (l : List (List S37)) : List (List PScriptTurns.S37) := l.map (List.map cv)
theorem C_cv {w : World} {A : Option Addr} {n : Nat} {xs : List S37} (h : Kd.C k37 w A n xs) : Kd.C PScriptTurns.k37 w A n (xs.map cv) := by
  refine ⟨by rw [List.length_map]; exact h.1, h.2.1, fun hn => ?_⟩
  obtain ⟨ad, e, hc⟩ := h.2.2 hn
  refine ⟨ad, e, fun j p hj => ?_⟩
  rw [List.getElem?_map] at hj
  obtain ⟨q, hq, rfl⟩ := Option.map_eq_some_iff.1 hj
  obtain ⟨c, h1, h2, h3⟩ := hc j q hq
  refine ⟨c, h1, ?_, h3⟩
  rw [k37_open h2]
  exact PScriptTurns.k37_mk w (cv q)
theorem C_cvs {w : World} {A : Option Addr} {n : Nat} {xs : List (List S37)} (h : Kd.C (Kd.slice 37 k37) w A n xs) : Kd.C (Kd.slice 37 PScriptTurns.k37) w A n (cvs xs) := by
  refine ⟨by unfold cvs; rw [List.length_map]; exact h.1, h.2.1, fun hn => ?_⟩
  obtain ⟨ad, e, hc⟩ := h.2.2 hn
  refine ⟨ad, e, fun j p hj => ?_⟩
  unfold cvs at hj
  rw [List.getElem?_map] at hj
  obtain ⟨q, hq, rfl⟩ := Option.map_eq_some_iff.1 hj
  obtain ⟨c, h1, ⟨A', c', h2, h4, h5⟩, h3⟩ := hc j q hq
  exact ⟨c, h1, ⟨A', c', by rw [h2, List.length_map], by rw [List.length_map]; exact h4, by rw [List.length_map]; exact C_cv h5⟩, h3⟩
end Go.Proofs.Ytcphmelmieedfaa.PScriptExact

