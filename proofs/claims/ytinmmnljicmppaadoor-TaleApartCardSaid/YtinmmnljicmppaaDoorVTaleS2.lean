import Derived.Test.YtinmmnljicmppaaDoorVTaleS
/-
How long a script's lines are.
-/
namespace Go.Proofs.YtinmmnljicmppaaDoor.PTaleApart
open Go Go.RowKit Go.Proofs.YtinmmnljicmppaaDoorW.PrintWords Go.Proofs.YtinmmnljicmppaaDoorW.PrintLast Go.Proofs.YtinmmnljicmppaaDoorW.PrintMore Go.Proofs.YtinmmnljicmppaaDoor.Str
set_option linter.unusedVariables false
set_option linter.unusedSimpArgs false
theorem thr_words (n : Nat) (h : n ≤ 64) : ∀ x ∈ [(⟨#[116, 104, 114, 101, 97, 100, 115]⟩ : ByteArray), itB (n : Int)], x.data.toList.length ≤ 1000000 := by
 intro x hx
 simp only [List.mem_cons, List.not_mem_nil, or_false] at hx
 rcases hx with rfl | rfl
 ·decide
 ·have := itB_len (n : Int) (by unfold I64; omega); omega
theorem textL_len {a b c d e : Int} {l5 : List (List S33)} {l6 : List Int} (h : scV a b c d e l5 l6 = (0, 0, 0)) : (textL a b c d e l5 l6).length ≤ 5000 ∧ 0 < (textL a b c d e l5 l6).length := by
 obtain ⟨hc, hl1, hl2, hl6, hrow, hpk⟩ := scV_zero h
 have h1 := opsLines_len l5 0 (fun l hl => (hrow l hl).1)
 unfold textL
 simp only [List.length_append, List.length_cons, List.length_nil]
 constructor
 ·split <;> split <;> simp only [List.length_cons, List.length_nil] <;> omega
 ·omega
theorem textL_bound {a b c d e : Int} {l5 : List (List S33)} {l6 : List Int} (h : scV a b c d e l5 l6 = (0, 0, 0)) (hty : ∀ l ∈ l5, ∀ o ∈ l, U64 o.f1 ∧ U64 o.f2) : ∀ x ∈ textL a b c d e l5 l6, x.data.toList.length ≤ 20000000 := by
 obtain ⟨hc, hl1, hl2, hl6, hrow, hpk⟩ := scV_zero h
 obtain ⟨p0, p1, p2, p3, p4, p5, p6, p7, p8⟩ := check_zero hc
 intro x hx
 unfold textL at hx
 rcases List.mem_append.1 hx with hx | hx
 ·rcases List.mem_append.1 hx with hx | hx
  ·rcases List.mem_append.1 hx with hx | hx
   ·obtain rfl := List.mem_singleton.1 hx
    exact confL_bound hc
   ·obtain ⟨j, l, o, h1, h2, h3, h4, rfl⟩ := opsLines_mem l5 0 x hx
    have hv := (hrow l h3).2 o h4
    obtain ⟨q0, q1, q2, q3, q4, q5⟩ := op_zero (show OpV a d o.f0 o.f1 o.f2 o.f3 = 0 from hv)
    exact opLine_bound (by unfold I64; omega) (hty l h3 o h4).1 (hty l h3 o h4).2 (by
     unfold I64
     by_cases e5 : a = 3 ∧ o.f0 = 1
     ·have := q5 e5
      have := p7 e5.1
      omega
     ·have := q4 e5; omega)
  ·split at hx
   ·obtain rfl := List.mem_singleton.1 hx
    exact joinB_bound _ (by simp) (thr_words _ hl2)
   ·cases hx
 ·split at hx
  ·obtain rfl := List.mem_singleton.1 hx
   exact picks_bound l6 hl6 (fun p hp => by have := hpk p hp; omega)
  ·cases hx
theorem textL_join {a b c d e : Int} {l5 : List (List S33)} {l6 : List Int} (h : scV a b c d e l5 l6 = (0, 0, 0)) (hty : ∀ l ∈ l5, ∀ o ∈ l, U64 o.f1 ∧ U64 o.f2) : (Lib.join ((textL a b c d e l5 l6).map (·.data.toList)) [10]).length ≤ 1000000000000 := by
 have h1 := join_bound [10] ((textL a b c d e l5 l6).map (·.data.toList)) 20000000 (fun x hx => by obtain ⟨y, hy, rfl⟩ := List.mem_map.1 hx; exact textL_bound h hty y hy)
 have h2 := (textL_len h).1
 simp only [List.length_map, List.length_cons, List.length_nil] at h1
 have h3 : (textL a b c d e l5 l6).length * 20000000 ≤ 5000 * 20000000 := Nat.mul_le_mul_right _ h2
 omega
theorem joinN_size (l : List ByteArray) : (joinN l).size = (Lib.join (l.map (·.data.toList)) [10]).length := by
 show (Lib.join (l.map (·.data.toList)) [10]).toArray.size = _
 rw [List.size_toArray]
end Go.Proofs.YtinmmnljicmppaaDoor.PTaleApart
