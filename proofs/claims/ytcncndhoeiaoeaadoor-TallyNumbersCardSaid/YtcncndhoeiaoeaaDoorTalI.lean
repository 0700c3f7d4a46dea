/-
The reference's Lines.
-/
import Derived.Test.YtcncndhoeiaoeaaDoorTalD
import Derived.Test.YtcncndhoeiaoeaaDoorTalH
namespace Go.Proofs.YtcncndhoeiaoeaaDoor.PTallyExact
open Go Go.RowKit Go.Proofs.YtcncndhoeiaoeaaDoorW.PrintWords Go.Proofs.YtcncndhoeiaoeaaDoorW.PrintLast Go.Proofs.YtcncndhoeiaoeaaDoorW.PrintMore
attribute [local go_sem] max2_int min2_int max_two min_two max_three min_three max_four min_four
set_option linter.unusedVariables false
set_option linter.unusedSimpArgs false
def itB (n : Int) : ByteArray := ⟨(Lib.itoa n).toArray⟩
def names9 : List ByteArray := [(⟨#[]⟩ : ByteArray), (⟨#[105, 110, 115, 101, 114, 116]⟩ : ByteArray), (⟨#[100, 101, 108, 101, 116, 101]⟩ : ByteArray), (⟨#[104, 97, 115]⟩ : ByteArray), (⟨#[112, 117, 116]⟩ : ByteArray), (⟨#[97, 100, 100]⟩ : ByteArray), (⟨#[114, 101, 109, 111, 118, 101]⟩ : ByteArray), (⟨#[103, 101, 116]⟩ : ByteArray), (⟨#[103, 105, 118, 101]⟩ : ByteArray)]
def nameN (k : Nat) : ByteArray := names9.getD k ⟨#[]⟩
/-- A kind's line, the first numbers of it. -/
def rowS (l : List Int) (k : Nat) : Nat → ByteArray
  | 0 => nameN k
  | i + 1 => (rowS l k i ++ ⟨#[32]⟩) ++ itB (l.getD (1 + k * 7 + i) 0)
def rowD (l : List Int) (k : Nat) : Nat → Bool
  | 0 => false
  | i + 1 => rowD l k i || decide (l.getD (1 + k * 7 + i) 0 ≠ 0)
/-- The lines of the first kinds. -/
def linesU (l : List Int) : Nat → List ByteArray
  | 0 => [(⟨#[105, 100, 108, 101, 32]⟩ : ByteArray) ++ itB (l.getD 0 0)]
  | n + 1 => linesU l n ++ (if n = 0 then [] else if rowD l n 7 = true then [rowS l n 7] else [])
def Ints (l : List Int) : Prop := ∀ x ∈ l, -9223372036854775808 ≤ x ∧ x ≤ 9223372036854775807
theorem Ints.at {l : List Int} (h : Ints l) (i : Nat) : -9223372036854775808 ≤ l.getD i 0 ∧ l.getD i 0 ≤ 9223372036854775807 := by
  rw [List.getD_eq_getElem?_getD]
  cases e : l[i]? with
  | none => simp
  | some x => exact h x (List.mem_of_getElem? e)
theorem itB_size (n : Int) (h : -9223372036854775808 ≤ n ∧ n ≤ 9223372036854775807) : (itB n).size ≤ 22 := by
  have := itoa_size n h.1 h.2
  simpa [itB, ByteArray.size] using this
theorem nameN_size (k : Nat) : (nameN k).size ≤ 6 := by
  unfold nameN names9
  rcases k with _ | _ | _ | _ | _ | _ | _ | _ | _ | k <;> first | decide | (simp; decide)
theorem sp_size : (⟨#[32]⟩ : ByteArray).size = 1 := rfl
theorem rowS_size {l : List Int} (h : Ints l) (k : Nat) : ∀ i, (rowS l k i).size ≤ 6 + i * 23
  | 0 => by have := nameN_size k; simpa [rowS] using this
  | i + 1 => by
    have h1 := rowS_size h k i
    have h2 := itB_size _ (h.at (1 + k * 7 + i))
    rw [rowS, ByteArray.size_append, ByteArray.size_append, sp_size]; omega
theorem linesU_len (l : List Int) : ∀ n, (linesU l n).length ≤ n + 1
  | 0 => by simp [linesU]
  | n + 1 => by
    have := linesU_len l n
    rw [linesU, List.length_append]
    split
    · simp; omega
    · split <;> simp <;> omega
def row_fars_ : Unit := ()
theorem onlys : ∀ q, q ∈ (9 : Nat) :: Kd.string.E → q = 9 := by intro q hq; simpa [Kd.string, Kd.scalar] using hq
theorem row_fars {W W1 : World} {B g t : Nat} {cs : Array Value} {v : Value} {xs : List ByteArray} {ok : Nat → Prop} (h : Kd.R Kd.string 9 W B ok v xs) (hb : W.heap[g]? = some (.cells cs t (0, 0))) (ht : 9 ≠ t) (h3 : ∀ k, k ≠ g → W1.heap[k]? = W.heap[k]?) : Kd.R Kd.string 9 W1 B ok v xs :=
  Kd.R_mono (Kd.R_step (Kd.R_types h hb (fun q hq => by rw [onlys q hq]; exact ht)) (fun k ho _ => h3 k ho.2)) (fun _ hk => hk.1)
theorem inf9 : (Tryd.prog.info? 9).map (fun i => (i.zero, i.size, i.bytes)) = some (some (.string ⟨#[]⟩), 1, 16) := by kernel_rfl
theorem reps_pS (W : World) (base : Nat) (ok : Nat → Prop) (x : ByteArray) : Reps (Kd.string.M W base ok) Kd.string.sz [x] [.string x] := by
  refine ⟨rfl, fun j p hj => ?_⟩
  rcases j with _ | j
  · simp at hj; subst hj; rfl
  · simp at hj
theorem n9_get (k : Nat) (hk : k < 9) : (#[.string ⟨#[]⟩, .string ⟨#[105, 110, 115, 101, 114, 116]⟩, .string ⟨#[100, 101, 108, 101, 116, 101]⟩, .string ⟨#[104, 97, 115]⟩, .string ⟨#[112, 117, 116]⟩, .string ⟨#[97, 100, 100]⟩, .string ⟨#[114, 101, 109, 111, 118, 101]⟩, .string ⟨#[103, 101, 116]⟩, .string ⟨#[103, 105, 118, 101]⟩] : Array Value)[k]? = some (.string (nameN k)) := by
  rcases k with _ | _ | _ | _ | _ | _ | _ | _ | _ | k
  iterate 9 rfl
  omega
set_option maxHeartbeats 64000000 in
set_option maxRecDepth 100000 in
theorem refLines_T (l : List Int) (w : World) (hl : l.length = 64) (hi : Ints l) :
    Calls Tryd.prog 34 #[.agg (TV l)] w fun e w' => ∃ v, e = .returned v ∧ Kd.R Kd.string 9 w' w.heap.size (fun _ => True) v (linesU l 9) ∧ Below w.heap.size w w' := by
  have hu56 := Tryd.underlying56
  have hu54 := Tryd.underlying54
  have hu53 := Tryd.underlying53
  have hu89 := Tryd.underlying89
  have hu62 := Tryd.underlying62
  have HL := Aside0.mk hl
  have HI := Aside0.mk hi
  clear hi
  have g0 := TV_get l 0 (by omega)
  have hz0 := itB_size _ (HI.out.at 0)
  have hm0 := num35 _ (HI.out.at 0).1 (HI.out.at 0).2
  have HD := Aside0.mk (show linesU l 1 = [(⟨#[105, 100, 108, 101, 32]⟩ : ByteArray) ++ itB (l.getD 0 0)] from by simp [linesU])
  generalize l.getD 0 0 = x0 at g0 hz0 hm0 HD
  have L_T := Aside0.mk (show w.heap.size ≤ w.heap.size from Nat.le_refl _)
  have T_1 := Aside0.mk (blk_new (w) (.cells (TV l) 56))
  have B2 := Aside0.mk (below_alloc (Below.refl w.heap.size w) (.cells (TV l) 56))
  have c0 := (blk_cell T_1.out 0).trans g0
  clear hl
  go_enter Tryd.func34, Tryd.ntmps34
  go_wp2_with fail
  clear c0
  refine (revenantref35_Num.calls 21 _ _ _ hm0).mono ?_
  rintro e_ w1 ⟨rfl, hb⟩
  have T_3 := Aside0.mk (blk_below T_1.out hb)
  have B4 := Aside0.mk (below_step B2.out hb)
  clear hb T_1 B2
  clear hm0
  have e0 : (⟨(Lib.itoa x0).toArray⟩ : ByteArray) = itB x0 := rfl
  rw [e0]
  clear e0
  have s0 := eq_false (show ¬ 9223372036854775807 < 5 + (itB x0).size by omega)
  clear hz0
  go_wp2_with (first
    | ((with_reducible refine gate_dst (N := 13) rfl ?_); refine Kd.R_lit Kd.string (w0 := w) w.heap.size 9 ?hg (N := 13) ?hd (xs := [(⟨#[105, 100, 108, 101, 32]⟩ : ByteArray) ++ itB x0]) (inner := [.string ((⟨#[105, 100, 108, 101, 32]⟩ : ByteArray) ++ itB x0)]) (ok := fun _ => True) (okp := fun _ => True) ?hr ?hp (fun _ hk => hk) trivial B4.out ?hsz (by simp) ?_; (case hd => rfl); (case hg => rfl); (case hr => first | (go_simp; done) | (go_simp; rfl)); (case hp => exact (Reps.one (show Kd.M Kd.string _ _ _ ((⟨#[105, 100, 108, 101, 32]⟩ : ByteArray) ++ itB x0) [.string ((⟨#[105, 100, 108, 101, 32]⟩ : ByteArray) ++ itB x0)] from rfl) (Reps.none _ _))); (case hsz => exact B4.out.size); intro vW w2 ho hb hg_ hnew_; have T_900 := Aside0.mk (show w2.heap[w.heap.size]? = some (.cells (TV l) 56 (0, 0)) from hg_.block _ (blk_lt T_3.out) (by simp) ▸ T_3.out); have W_900 := Aside0.mk ho; have B900 := Aside0.mk hb; clear ho hb hg_ hnew_ T_3 B4))
  have L_N := Aside0.mk (show w.heap.size ≤ w2.heap.size from B900.out.size)
  have NE_T_N := Aside0.mk (show w.heap.size ≠ w2.heap.size by have := blk_lt T_900.out; omega)
  have T_901 := Aside0.mk (blk_alloc T_900.out (.cells (#[.string ⟨#[]⟩, .string ⟨#[105, 110, 115, 101, 114, 116]⟩, .string ⟨#[100, 101, 108, 101, 116, 101]⟩, .string ⟨#[104, 97, 115]⟩, .string ⟨#[112, 117, 116]⟩, .string ⟨#[97, 100, 100]⟩, .string ⟨#[114, 101, 109, 111, 118, 101]⟩, .string ⟨#[103, 101, 116]⟩, .string ⟨#[103, 105, 118, 101]⟩]) 89))
  have N_902 := Aside0.mk (blk_new (w2) (.cells (#[.string ⟨#[]⟩, .string ⟨#[105, 110, 115, 101, 114, 116]⟩, .string ⟨#[100, 101, 108, 101, 116, 101]⟩, .string ⟨#[104, 97, 115]⟩, .string ⟨#[112, 117, 116]⟩, .string ⟨#[97, 100, 100]⟩, .string ⟨#[114, 101, 109, 111, 118, 101]⟩, .string ⟨#[103, 101, 116]⟩, .string ⟨#[103, 105, 118, 101]⟩]) 89))
  have B903 := Aside0.mk (below_alloc B900.out (.cells (#[.string ⟨#[]⟩, .string ⟨#[105, 110, 115, 101, 114, 116]⟩, .string ⟨#[100, 101, 108, 101, 116, 101]⟩, .string ⟨#[104, 97, 115]⟩, .string ⟨#[112, 117, 116]⟩, .string ⟨#[97, 100, 100]⟩, .string ⟨#[114, 101, 109, 111, 118, 101]⟩, .string ⟨#[103, 101, 116]⟩, .string ⟨#[103, 105, 118, 101]⟩]) 89))
  clear T_900 B900
  have W_904 := Aside0.mk (Kd.R_alloc (W_900.out) (.cells (#[.string ⟨#[]⟩, .string ⟨#[105, 110, 115, 101, 114, 116]⟩, .string ⟨#[100, 101, 108, 101, 116, 101]⟩, .string ⟨#[104, 97, 115]⟩, .string ⟨#[112, 117, 116]⟩, .string ⟨#[97, 100, 100]⟩, .string ⟨#[114, 101, 109, 111, 118, 101]⟩, .string ⟨#[103, 101, 116]⟩, .string ⟨#[103, 105, 118, 101]⟩]) 89))
  clear W_900
  go_loopg [3, 5] 8 (fun kq v3 v5 w' => ∃ (n : Nat) (vW : Value), v3 = vW ∧ v5 = .int .i64 (n : Int) ∧ Aside0 (1 ≤ n ∧ n + kq = 9) ∧ Aside0 (Below w.heap.size w w') ∧ Aside0 (w'.heap[w.heap.size]? = some (.cells (TV l) 56 (0, 0))) ∧ Aside0 (w'.heap[w2.heap.size]? = some (.cells #[.string ⟨#[]⟩, .string ⟨#[105, 110, 115, 101, 114, 116]⟩, .string ⟨#[100, 101, 108, 101, 116, 101]⟩, .string ⟨#[104, 97, 115]⟩, .string ⟨#[112, 117, 116]⟩, .string ⟨#[97, 100, 100]⟩, .string ⟨#[114, 101, 109, 111, 118, 101]⟩, .string ⟨#[103, 101, 116]⟩, .string ⟨#[103, 105, 118, 101]⟩] 89 (0, 0))) ∧ Aside0 (Kd.R Kd.string 9 w' w.heap.size (fun _ => True) vW (linesU l n)))
  case atStart => exact ⟨1, vW, rfl, rfl, ⟨by omega⟩, ⟨B903.out⟩, ⟨T_901.out⟩, ⟨N_902.out⟩, ⟨by rw [HD.out]; exact W_904.out⟩⟩
  case round =>
    rename World => wo
    clear B903 T_901 N_902 W_904 HD
    obtain ⟨n, _, rfl, rfl, HK, B1900, T_1900, N_1900, W_1900⟩ := hrel
    by_cases hi : n < 9
    · skip
      have d1 : decide ((n : Int) < 9) = true := decide_eq_true (by omega)
      have q1 := Aside0.mk (show 1 ≤ n ∧ n < 9 from ⟨HK.out.1, hi⟩)
      obtain ⟨ko, rfl⟩ : ∃ m, gk = m + 1 := ⟨gk - 1, by have := HK.out; omega⟩
      have p0 := eq_true (show (0 : Int) ≤ (n : Int) by omega)
      have p1 := eq_true (show (n : Int) < 9 by omega)
      have p2 := eq_true hi
      have wi : wrap64 ((n : Int) + 1) = ((n + 1 : Nat) : Int) := by have := q1.out; unfold wrap64; omega
      have cN := (blk_cell N_1900.out n).trans (n9_get n hi)
      clear hi
      go_wp2_with fail
      go_loopg [6, 7, 8] 7 (fun kq v6 v7 v8 w' => ∃ (i : Nat), v6 = .string (rowS l n i) ∧ v7 = .bool (rowD l n i) ∧ v8 = .int .i64 (i : Int) ∧ Aside0 (i + kq = 7) ∧ Aside0 (Below w.heap.size w w') ∧ Aside0 (w'.heap[w.heap.size]? = some (.cells (TV l) 56 (0, 0))) ∧ Aside0 (w'.heap[w2.heap.size]? = some (.cells #[.string ⟨#[]⟩, .string ⟨#[105, 110, 115, 101, 114, 116]⟩, .string ⟨#[100, 101, 108, 101, 116, 101]⟩, .string ⟨#[104, 97, 115]⟩, .string ⟨#[112, 117, 116]⟩, .string ⟨#[97, 100, 100]⟩, .string ⟨#[114, 101, 109, 111, 118, 101]⟩, .string ⟨#[103, 101, 116]⟩, .string ⟨#[103, 105, 118, 101]⟩] 89 (0, 0))) ∧ Aside0 (Kd.R Kd.string 9 w' w.heap.size (fun _ => True) u3 (linesU l n)))
      case atStart => exact ⟨0, rfl, rfl, rfl, ⟨rfl⟩, ⟨B1900.out⟩, ⟨T_1900.out⟩, ⟨N_1900.out⟩, ⟨W_1900.out⟩⟩
      case round =>
        clear cN B1900 T_1900 N_1900 W_1900
        obtain ⟨i, rfl, rfl, rfl, HJ, B2900, T_2900, N_2900, W_2900⟩ := hrel
        by_cases hj : i < 7
        · have d2 : decide ((i : Int) < 7) = true := decide_eq_true (by omega)
          have q2 := Aside0.mk hj
          obtain ⟨ki, rfl⟩ : ∃ m, gk = m + 1 := ⟨gk - 1, by have := HJ.out; omega⟩
          have r0 := eq_true (show (0 : Int) ≤ (i : Int) by omega)
          have r1 := eq_true (show (i : Int) < 7 by omega)
          have r2 := eq_true hj
          have wj : wrap64 ((i : Int) + 1) = ((i + 1 : Nat) : Int) := by have := q2.out; unfold wrap64; omega
          have gx := TV_get l (1 + n * 7 + i) (by have := HL.out; have := q1.out; omega)
          have hz := itB_size _ (HI.out.at (1 + n * 7 + i))
          have hm := num35 _ (HI.out.at (1 + n * 7 + i)).1 (HI.out.at (1 + n * 7 + i)).2
          have hs := rowS_size HI.out n i
          have HS := Aside0.mk (show rowS l n (i + 1) = (rowS l n i ++ ⟨#[32]⟩) ++ itB (l.getD (1 + n * 7 + i) 0) from rfl)
          have HDD := Aside0.mk (show rowD l n (i + 1) = (rowD l n i || decide (l.getD (1 + n * 7 + i) 0 ≠ 0)) from rfl)
          generalize l.getD (1 + n * 7 + i) 0 = x at gx hz hm HS HDD
          obtain ⟨rs, ers⟩ : ∃ r, rowS l n i = r := ⟨_, rfl⟩
          obtain ⟨rd, erd⟩ : ∃ r, rowD l n i = r := ⟨_, rfl⟩
          rw [ers] at hs HS ⊢
          rw [erd] at HDD ⊢
          have s1 := eq_false (show ¬ 9223372036854775807 < rs.size + 1 by omega)
          have s2 := eq_false (show ¬ 9223372036854775807 < rs.size + 1 + (itB x).size by omega)
          clear ers erd hs hz
          have cT := (blk_cell T_2900.out (1 + n * 7 + i)).trans gx
          clear hj
          go_wp2_with fail
          clear cT
          refine (revenantref35_Num.calls 21 _ _ _ hm).mono ?_
          rintro e_ w5 ⟨rfl, hb⟩
          have T_2901 := Aside0.mk (blk_below T_2900.out hb)
          have N_2902 := Aside0.mk (blk_below N_2900.out hb)
          have W_2903 := Aside0.mk (Kd.R_below W_2900.out hb)
          have B2904 := Aside0.mk (below_step B2900.out hb)
          clear hb T_2900 N_2900 W_2900 B2900
          clear hm
          have e0 : (⟨(Lib.itoa x).toArray⟩ : ByteArray) = itB x := rfl
          rw [e0]
          clear e0
          have cT := (blk_cell T_2901.out (1 + n * 7 + i)).trans gx
          cases rd with
          | true =>
            go_wp2_with fail
            go_roundg ki
            case rel => exact ⟨i + 1, by rw [HS.out], by rw [HDD.out]; first | rfl | (simp; done) | (simp [nx]; done), by first | rfl | rw [wj], ⟨by have := HJ.out; omega⟩, ⟨B2904.out⟩, ⟨T_2901.out⟩, ⟨N_2902.out⟩, ⟨W_2903.out⟩⟩
            case measure => exact Nat.lt_succ_self _
          | false =>
            by_cases nx : x = 0
            · subst nx
              go_wp2_with fail
              go_roundg ki
              case rel => exact ⟨i + 1, by rw [HS.out], by rw [HDD.out]; first | rfl | (simp; done) | (simp [nx]; done), by first | rfl | rw [wj], ⟨by have := HJ.out; omega⟩, ⟨B2904.out⟩, ⟨T_2901.out⟩, ⟨N_2902.out⟩, ⟨W_2903.out⟩⟩
              case measure => exact Nat.lt_succ_self _
            · have b0 : (x == 0) = false := beq_eq_false_iff_ne.mpr nx
              have b1 : (x != 0) = true := by simpa using nx
              have b2 : decide (x = 0) = false := decide_eq_false nx
              go_wp2_with fail
              go_roundg ki
              case rel => exact ⟨i + 1, by rw [HS.out], by rw [HDD.out]; first | rfl | (simp; done) | (simp [nx]; done), by first | rfl | rw [wj], ⟨by have := HJ.out; omega⟩, ⟨B2904.out⟩, ⟨T_2901.out⟩, ⟨N_2902.out⟩, ⟨W_2903.out⟩⟩
              case measure => exact Nat.lt_succ_self _
        · have d2 : decide ((i : Int) < 7) = false := decide_eq_false (by omega)
          obtain rfl : i = 7 := by have := HJ.out; omega
          clear hj HJ
          have HU := Aside0.mk (show linesU l (n + 1) = linesU l n ++ (if n = 0 then [] else if rowD l n 7 = true then [rowS l n 7] else []) from rfl)
          rw [if_neg (by have := q1.out; omega)] at HU
          have HLN := Aside0.mk (linesU_len l n)
          generalize rowS l n 7 = rs at HU ⊢
          generalize rowD l n 7 = rd at HU ⊢
          cases rd with
          | true =>
            rw [if_pos rfl] at HU
            go_wp2_with (first
              | ((with_reducible refine gate_builtin (b := .append) (xs := #[.tmp 47, .tmp 49]) rfl ?_); at_builtin; refine Kd.R_append Kd.string (w0 := w) w.heap.size rfl (.tmp 47) (.tmp 49) 62 9 (.string ⟨#[]⟩) 16 rfl Tryd.underlying62 inf9 rfl (by decide) (by omega) u3 (linesU l n) rs [.string rs] (fun _ => True) (fun _ => False) rfl rfl rfl (fun _ h => h.elim) (fun _ _ => trivial) W_2900.out B2900.out B2900.out.size (by have := HLN.out; have := q1.out; omega) ?_; intro vX w6 ho hb hg_ hat_; have T_3900 := Aside0.mk ((hg_.block _ (blk_lt T_2900.out) (Kd.R_ne W_2900.out T_2900.out (by decide))).trans T_2900.out); have N_3900 := Aside0.mk ((hg_.block _ (blk_lt N_2900.out) (Kd.R_ne W_2900.out N_2900.out (by decide))).trans N_2900.out); have W_3900 := Aside0.mk (show Kd.R Kd.string 9 w6 w.heap.size (fun _ => True) vX (linesU l (n + 1)) from by rw [HU.out]; exact ho); have B3900 := Aside0.mk hb; clear ho hb hg_ hat_ T_2900 N_2900 W_2900 B2900))
            go_roundg ko
            case rel => exact ⟨n + 1, vX, rfl, by first | rfl | rw [wi], ⟨by have := HK.out; omega⟩, B3900, T_3900, N_3900, W_3900⟩
            case measure => exact Nat.lt_succ_self _
          | false =>
            rw [if_neg (by decide), List.append_nil] at HU
            have W_3900 := Aside0.mk (show Kd.R Kd.string 9 wr w.heap.size (fun _ => True) u3 (linesU l (n + 1)) from by rw [HU.out]; exact W_2900.out)
            have T_3900 := Aside0.mk T_2900.out
            have N_3900 := Aside0.mk N_2900.out
            have B3900 := Aside0.mk B2900.out
            go_wp2_with fail
            go_roundg ko
            case rel => exact ⟨n + 1, u3, rfl, by first | rfl | rw [wi], ⟨by have := HK.out; omega⟩, B3900, T_3900, N_3900, W_3900⟩
            case measure => exact Nat.lt_succ_self _
    · have d1 : decide ((n : Int) < 9) = false := decide_eq_false (by omega)
      obtain rfl : n = 9 := by have := HK.out; omega
      clear hi HK
      go_wp2_with fail
      go_ret
      exact ⟨_, rfl, W_1900.out, B1900.out⟩
end Go.Proofs.YtcncndhoeiaoeaaDoor.PTallyExact

