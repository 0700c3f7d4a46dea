import Derived.Test.YtinmmnljicmppaaDoorVTaleR
/-
The lines of a script: plain laws.
-/
namespace Go.Proofs.YtinmmnljicmppaaDoor.PTaleApart
open Go Go.RowKit Go.Proofs.YtinmmnljicmppaaDoorW.PrintWords Go.Proofs.YtinmmnljicmppaaDoorW.PrintLast Go.Proofs.YtinmmnljicmppaaDoorW.PrintMore Go.Proofs.YtinmmnljicmppaaDoor.Str
set_option linter.unusedVariables false
set_option linter.unusedSimpArgs false
theorem opsGo_zero (a d t : Int) : ∀ (l : List S33) (i : Int), opsGo a d t l i = (0, 0, 0) → ∀ o ∈ l, opV1 a d o = 0
 | [], _, _ => fun o ho => by cases ho
 | x :: r, i, h => by
  simp only [opsGo] at h
  split at h
  ·rename_i hx
   intro o ho
   rcases List.mem_cons.1 ho with rfl | ho
   ·exact hx
   ·exact opsGo_zero a d t r (i + 1) h o ho
  ·rename_i hx
   injection h with h _
   exact absurd h hx
theorem opssV_zero (a d : Int) : ∀ (ls : List (List S33)) (i : Int), opssV a d ls i = (0, 0, 0) → ∀ l ∈ ls, l.length ≤ 64 ∧ ∀ o ∈ l, opV1 a d o = 0
 | [], _, _ => fun l hl => by cases hl
 | x :: r, i, h => by
  simp only [opssV] at h
  split at h
  ·rename_i hx
   intro l hl
   rcases List.mem_cons.1 hl with rfl | hl
   ·unfold opsV at hx
    split at hx
    ·injection hx with hx _
     exact absurd hx (by decide)
    ·exact ⟨by omega, opsGo_zero a d i l 0 hx⟩
   ·exact opssV_zero a d r (i + 1) h l hl
  ·rename_i hx
   exact absurd h hx
theorem idxN_neg (m : Int) : ∀ (ps : List Int) (i : Int), 0 ≤ i → ¬ 0 ≤ idxN m ps i → ∀ p ∈ ps, 0 ≤ p ∧ p < m
 | [], _, _, _ => fun p hp => by cases hp
 | y :: r, i, hi, h => by
  unfold idxN at h
  split at h
  ·omega
  ·rename_i hy
   intro p hp
   rcases List.mem_cons.1 hp with rfl | hp
   ·omega
   ·exact idxN_neg m r (i + 1) (by omega) h p hp
theorem scV_zero {a b c d e : Int} {l5 : List (List S33)} {l6 : List Int} (h : scV a b c d e l5 l6 = (0, 0, 0)) : CheckV a b c d e = 0 ∧ 1 ≤ l5.length ∧ l5.length ≤ 64 ∧ l6.length ≤ 262144 ∧ (∀ l ∈ l5, l.length ≤ 64 ∧ ∀ o ∈ l, opV1 a d o = 0) ∧ (∀ p ∈ l6, 0 ≤ p ∧ p < (l5.length : Int)) := by
 unfold scV at h
 split at h
 ·rename_i hc
  injection h with h _
  exact absurd h hc
 ·rename_i hc
  split at h
  ·injection h with h _
   exact absurd h (by decide)
  ·split at h
   ·injection h with h _
    exact absurd h (by decide)
   ·split at h
    ·rename_i ho
     exact absurd h ho
    ·rename_i ho
     split at h
     ·injection h with h _
      exact absurd h (by decide)
     ·rename_i hi
      exact ⟨Classical.not_not.1 hc, by omega, by omega, by omega, opssV_zero a d l5 0 (Classical.not_not.1 ho), idxN_neg _ l6 0 (Int.le_refl 0) hi⟩
def opLine (t : Int) (o : S33) : ByteArray := joinB (opL o.f0.toNat t o.f1 o.f2 o.f3)
def opsLines : List (List S33) → Nat → List ByteArray
 | [], _ => []
 | l :: r, i => l.map (opLine (i : Int)) ++ opsLines r (i + 1)
def thrLine (n : Nat) : ByteArray := joinB [(⟨#[116, 104, 114, 101, 97, 100, 115]⟩ : ByteArray), itB (n : Int)]
def textL (a b c d e : Int) (l5 : List (List S33)) (l6 : List Int) : List ByteArray :=
 [joinB (confL a.toNat b c d e)] ++ opsLines l5 0 ++ (if (l5.getD (l5.length - 1) []).length = 0 then [thrLine l5.length] else []) ++ (if 0 < l6.length then [⟨(picksLine l6).toArray⟩] else [])
def joinN (l : List ByteArray) : ByteArray := ⟨(Lib.join (l.map (·.data.toList)) [10]).toArray⟩
def textV (a b c d e : Int) (l5 : List (List S33)) (l6 : List Int) : ByteArray × Int :=
 if scV a b c d e l5 l6 = (0, 0, 0) then (joinN (textL a b c d e l5 l6) ++ (⟨#[10]⟩ : ByteArray), 0) else (⟨#[]⟩, (scV a b c d e l5 l6).1)
theorem sum_le {α : Type} (f : α → Nat) (M : Nat) : ∀ l : List α, (∀ x ∈ l, f x ≤ M) → (l.map f).sum ≤ l.length * M
 | [], _ => by simp
 | x :: r, h => by
  have h1 := sum_le f M r (fun y hy => h y (by simp [hy]))
  have h2 := h x (by simp)
  simp only [List.map_cons, List.sum_cons, List.length_cons, Nat.succ_mul]
  omega
theorem join_bound (s : List UInt8) (l : List (List UInt8)) (M : Nat) (h : ∀ x ∈ l, x.length ≤ M) : (Lib.join l s).length ≤ l.length * M + l.length * s.length := by
 have h1 := join_len s l
 have h2 := sum_le (fun x : List UInt8 => x.length) M l h
 omega
theorem joinB_bound (l : List ByteArray) (hl : l.length ≤ 4) (h : ∀ x ∈ l, x.data.toList.length ≤ 1000000) : (joinB l).data.toList.length ≤ 20000000 := by
 show (Lib.join (l.map (·.data.toList)) [32]).length ≤ _
 have h1 := join_bound [32] (l.map (·.data.toList)) 1000000 (fun x hx => by obtain ⟨y, hy, rfl⟩ := List.mem_map.1 hx; exact h y hy)
 simp only [List.length_map, List.length_cons, List.length_nil] at h1
 have h2 : l.length * 1000000 ≤ 4 * 1000000 := Nat.mul_le_mul_right _ hl
 omega
theorem picks_bound (l : List Int) (hl : l.length ≤ 262144) (h : ∀ x ∈ l, 0 ≤ x ∧ x < 64) : (picksLine l).length ≤ 20000000 := by
 unfold picksLine
 have hr := runs_le _ l (Nat.le_refl _)
 have h1 := join_bound [32] (picksB :: (runs l).map pickWord) 41 (fun x hx => by
  rcases List.mem_cons.1 hx with rfl | hx
  ·decide
  ·obtain ⟨q, hq, rfl⟩ := List.mem_map.1 hx
   obtain ⟨h1, h3⟩ := runs_in _ l (Nat.le_refl _) q hq
   have := (h _ h1)
   unfold pickWord
   have h4 := dec_len20 q.1.toNat (by omega)
   have h5 := dec_len20 q.2 (by omega)
   rw [List.length_append]
   split
   ·rw [List.length_cons]; omega
   ·rw [List.length_nil]; omega)
 simp only [List.length_cons, List.length_map, List.length_nil] at h1
 omega
theorem confL_bound {a b c d e : Int} (h : CheckV a b c d e = 0) : (joinB (confL a.toNat b c d e)).data.toList.length ≤ 20000000 := by
 obtain ⟨p0, p1, p2, p3, p4, p5, p6, p7, p8⟩ := check_zero h
 have hc : I64 c := by
  unfold I64
  by_cases e2 : a = 2
  ·have := p5 e2; omega
  ·have := p6 e2; omega
 have hd : I64 d := by
  unfold I64
  by_cases e3 : a = 3
  ·have := p7 e3; omega
  ·have := p8 e3; omega
 refine joinB_bound _ (by unfold confL; split <;> (try split) <;> simp) (fun x hx => ?_)
 have k1 := kindW_len a.toNat
 have k2 := itB_len b (by unfold I64; omega)
 have k3 := itB_len c hc
 have k4 := itB_len d hd
 have k5 := itB_len e (by unfold I64; omega)
 unfold confL at hx
 split at hx
 ·simp only [List.mem_cons, List.not_mem_nil, or_false] at hx
  rcases hx with rfl | rfl | rfl | rfl <;> omega
 ·split at hx
  ·simp only [List.mem_cons, List.not_mem_nil, or_false] at hx
   rcases hx with rfl | rfl | rfl | rfl <;> omega
  ·simp only [List.mem_cons, List.not_mem_nil, or_false] at hx
   rcases hx with rfl | rfl | rfl <;> omega
theorem opLine_bound {t : Int} {o : S33} (ht : I64 t) (h1 : U64 o.f1) (h2 : U64 o.f2) (h3 : I64 o.f3) : (opLine t o).data.toList.length ≤ 20000000 :=
 joinB_bound _ (opL_small _ _ _ _ _) (opL_words _ ht h1 h2 h3)
theorem opsLines_snoc : ∀ (ls : List (List S33)) (l : List S33) (i : Nat), opsLines (ls ++ [l]) i = opsLines ls i ++ l.map (opLine ((i + ls.length : Nat) : Int))
 | [], l, i => by simp [opsLines]
 | x :: r, l, i => by
  simp only [List.cons_append, opsLines, opsLines_snoc r l (i + 1), List.length_cons, List.append_assoc]
  rw [show i + 1 + r.length = i + (r.length + 1) by omega]
theorem opsLines_take (l5 : List (List S33)) (i : Nat) (hi : i < l5.length) : opsLines (l5.take (i + 1)) 0 = opsLines (l5.take i) 0 ++ (rd_LL l5 (i : Int)).map (opLine (i : Int)) := by
 rw [List.take_add_one, List.getElem?_eq_getElem hi]
 show opsLines (l5.take i ++ [l5[i]]) 0 = _
 rw [opsLines_snoc, List.length_take, Nat.min_eq_left (by omega), Nat.zero_add]
 congr 2
 unfold rd_LL
 rw [Int.toNat_natCast, List.getD_eq_getElem?_getD, List.getElem?_eq_getElem hi]
 rfl
theorem opsLines_len : ∀ (ls : List (List S33)) (i : Nat), (∀ l ∈ ls, l.length ≤ 64) → (opsLines ls i).length ≤ ls.length * 64
 | [], _, _ => by simp [opsLines]
 | x :: r, i, h => by
  have h1 := opsLines_len r (i + 1) (fun l hl => h l (by simp [hl]))
  have h2 := h x (by simp)
  simp only [opsLines, List.length_append, List.length_map, List.length_cons, Nat.succ_mul]
  omega
theorem opsLines_mem : ∀ (ls : List (List S33)) (i : Nat) (x : ByteArray), x ∈ opsLines ls i → ∃ (j : Nat) (l : List S33) (o : S33), i ≤ j ∧ j < i + ls.length ∧ l ∈ ls ∧ o ∈ l ∧ x = opLine (j : Int) o
 | [], _, x, h => by cases h
 | l :: r, i, x, h => by
  simp only [opsLines, List.mem_append] at h
  rcases h with h | h
  ·obtain ⟨o, ho, rfl⟩ := List.mem_map.1 h
   exact ⟨i, l, o, Nat.le_refl _, by simp only [List.length_cons]; omega, by simp, ho, rfl⟩
  ·obtain ⟨j, l', o, h1, h2, h3, h4, h5⟩ := opsLines_mem r (i + 1) x h
   exact ⟨j, l', o, by omega, by simp only [List.length_cons]; omega, by simp [h3], h4, h5⟩
theorem joinS_T (A0 : Option Addr) (c0 : Nat) (l0 : List ByteArray) (w : World) (hr0 : Kd.C Kd.string w A0 l0.length l0) (hc0 : l0.length ≤ c0) (h0 : 0 < l0.length) (h1 : l0.length ≤ 140737488355328) (h2 : (Lib.join (l0.map (·.data.toList)) [10]).length ≤ 140737488355328) :
  Calls Tryd.prog 32 #[.slice A0 l0.length c0, .string ⟨#[10]⟩] w fun e w' => e = .returned (.string (joinN l0)) ∧ Below w.heap.size w w' := by
 obtain ⟨b, o, rfl, hb, hcell⟩ := C_addr hr0 h0
 exact Tryd.strings_Join b o c0 l0 ⟨#[10]⟩ w hcell hb h1 hc0 h2
end Go.Proofs.YtinmmnljicmppaaDoor.PTaleApart
