/-
The law SoulNever.
-/
import Derived.Test.YtlpnggapndokeaaSoulB
namespace Go.Proofs.Ytlpnggapndokeaa.PIdealKeeps
open Go Go.RowKit Go.Proofs.YtlpnggapndokeaaW.PrintWords Go.Proofs.YtlpnggapndokeaaW.PrintLast Go.Proofs.YtlpnggapndokeaaW.PrintMore Go.Proofs.Ytlpnggapndokeaa.M
attribute [local go_sem] max2_int min2_int max_two min_two max_three min_three max_four min_four
set_option linter.unusedVariables false
set_option linter.unusedSimpArgs false
/-- Who slots are, and a row of one's own, apart. -/
structure Nev6 (w0 w : World) (gs g3 : Nat) (v : Value) (now : List (Int × Int)) (row : List Int) (u : Value) (l : List Int) : Prop where
  S : SoulIs w0 w gs g3 v now row
  R : (Kd.int .i64).R 3 w w0.heap.size (fun _ => True) u l
  ap : ∀ k, v.ownBlock = some k → u.ownBlock ≠ some k
section
variable {w0 w w1 : World} {gs g3 : Nat} {v v' u u' : Value} {now now' : List (Int × Int)} {row row' l l' : List Int}
theorem Nev6.below (h : Nev6 w0 w gs g3 v now row u l) (hb : Below w.heap.size w w1) : Nev6 w0 w1 gs g3 v now row u l := ⟨h.S.below hb, Kd.R_below h.R hb, h.ap⟩
theorem Nev6.drew (h : Nev6 w0 w gs g3 v now row u l) : Nev6 w0 w.drew gs g3 v now row u l := h.below (below_drew (Below.refl _ _))
theorem Nev6.start (S : SoulIs w0 w gs g3 v now row) (hb : w0.heap.size ≤ w.heap.size) : Nev6 w0 (w.alloc (.cells #[] 3)) gs g3 v now row (.slice (some ⟨w.heap.size, 0, none⟩) 0 0) [] :=
  ⟨S.alloc _, Kd.R_lower (R_emptyR (Kd.int .i64) 3 w (fun _ => True) trivial) hb, fun k hk hk2 => by
    have := Kd.R_lt S.row k hk
    have e : w.heap.size = k := by simpa [Value.ownBlock] using hk2
    omega⟩
theorem Nev6.sB (h : Nev6 w0 w gs g3 v now row u l) (h1 : SoulIs w0 w1 gs g3 v' now' row') (ho : v'.ownBlock = v.ownBlock ∨ ∃ b, v'.ownBlock = some b ∧ w.heap.size ≤ b) (hf : Fr (SoulU gs g3 v) w w1) : Nev6 w0 w1 gs g3 v' now' row' u l := by
  refine ⟨h1, row_kept rfl h.R hf (fun k o hk hj ht => ?_), ?_⟩
  · obtain ⟨cs, rfl⟩ := ht
    rintro (e | e | e)
    · subst e; exact blk_ne hj h.S.blk (by decide) rfl
    · exact mapIs_ne h.S.map hj e
    · exact h.ap k e.symm hk
  · intro k hk hk2
    rcases ho with ho | ⟨b, ho, hb⟩
    · exact h.ap k (ho ▸ hk) hk2
    · rw [ho] at hk
      injection hk with hk
      have := Kd.R_lt h.R k hk2
      omega
theorem Nev6.app (h : Nev6 w0 w gs g3 v now row u l) (hg : w.grownBy w1 u.ownBlock) (hR : (Kd.int .i64).R 3 w1 w0.heap.size (fun _ => True) u' l') (hat : u'.ownBlock = u.ownBlock ∨ ∃ b, u'.ownBlock = some b ∧ w.heap.size ≤ b) : Nev6 w0 w1 gs g3 v now row u' l' := by
  have hf : Fr (fun j _ => some j = u.ownBlock) w w1 := (Fr.refl _ w).grown hg (fun k hk o ho => hk.symm)
  refine ⟨⟨blk_grown h.S.blk hg (Kd.R_ne h.R h.S.blk (by decide)), ?_, row_kept rfl h.S.row hf (fun k o hk hj ht x => h.ap k hk x.symm), h.S.b1, h.S.b2⟩, hR, ?_⟩
  · obtain ⟨es, c, hb, he⟩ := h.S.map
    refine ⟨es, c, hf.blk hb (fun e => ?_), he⟩
    obtain ⟨cells, hc⟩ := Kd.R_typed h.R g3 e.symm
    rw [hb] at hc
    cases hc
  · intro k hk hk2
    rcases hat with ho | ⟨b, ho, hbs⟩
    · exact h.ap k hk (ho ▸ hk2)
    · rw [ho] at hk2
      injection hk2 with hk2
      have := Kd.R_lt h.S.row k hk
      omega
end
theorem isR_of {now : List (Int × Int)} {row : List Int} (h : Rel6 now row) {a id : Int} (h0 : 1 ≤ id) : isR now a id = (nowR row a == id) := by
  unfold isR
  rw [h.tell, bne_iff_ne.2 (show id ≠ 0 by omega)]
  rfl
theorem rd_wasF (r : List Int) {id : Int} (h1 : 1 ≤ id) (h2 : id ≤ r.length) : rd (wasF r r.length) (id - 1) = if nowR r (slotR r id) = id then 1 else 0 := by
  show (wasF r r.length).getD (id - 1).toNat 0 = _
  rw [wasF_get r r.length (i := (id - 1).toNat) (by omega), show (((id - 1).toNat : Nat) : Int) + 1 = id by omega]
theorem wasF_next (r : List Int) {id : Int} (h1 : 1 ≤ id) : wasF r (id + 1 - 1).toNat = wasF r (id - 1).toNat ++ [if nowR r (slotR r id) = id then 1 else 0] := by
  rw [show (id + 1 - 1).toNat = (id - 1).toNat + 1 by omega]
  simp only [wasF]
  rw [show (((id - 1).toNat : Nat) : Int) + 1 = id by omega]
def sumF (row l : List Int) (i : Nat) : Int := (((l.take i).map (fun s => (allF row s row.length).length)).sum : Nat)
theorem sumF_succ (row l : List Int) {i : Int} (h0 : 0 ≤ i) (h : i < l.length) : sumF row l (i + 1).toNat = sumF row l i.toNat + ((allF row (rd l i) row.length).length : Int) := by
  unfold sumF
  rw [show (i + 1).toNat = i.toNat + 1 by omega, take_sum_succ _ l i.toNat (by omega)]
  exact Int.natCast_add _ _
theorem sumF_le (row : List Int) (i : Nat) : 0 ≤ sumF row ((firsts row row.length).mergeSort leZ) i ∧ sumF row ((firsts row row.length).mergeSort leZ) i ≤ row.length := by
  unfold sumF
  have h1 := take_sum_le (fun s => (allF row s row.length).length) ((firsts row row.length).mergeSort leZ) i
  rw [sorted_sum] at h1
  omega
theorem sumF_all (row : List Int) : sumF row ((firsts row row.length).mergeSort leZ) ((firsts row row.length).mergeSort leZ).length = row.length := by
  unfold sumF
  rw [List.take_length, sorted_sum]
set_option maxHeartbeats 16000000 in
set_option maxRecDepth 100000 in
theorem never06T (A0_ A1_ : Option Addr) (c0 c1 : Nat) (xs ys : List Int) (w : World) (hr0 : Kd.C (Kd.int .i64) w A0_ xs.length xs) (hc0 : xs.length ≤ c0) (hr1 : Kd.C (Kd.int .i64) w A1_ ys.length ys) (hc1 : ys.length ≤ c1) (hG : ∀ x ∈ xs, (Lit.int .i64 x).wf = true) (hG1 : ∀ x ∈ ys, (Lit.int .i64 x).wf = true) :
    Calls Try.prog 14 #[.slice A0_ xs.length c0, .slice A1_ ys.length c1] w fun e w' => e = .returned (.bool true) ∧ Below w.heap.size w w' := by
  have hu95 := Try.underlying95
  have HR := Aside0.mk hr0
  have HC := Aside0.mk hc0
  have HG := Aside0.mk hG
  have HR1 := Aside0.mk hr1
  have HC1 := Aside0.mk hc1
  have HG1 := Aside0.mk hG1
  clear hr0 hc0 hG hr1 hc1 hG1
  by_cases h50 : 50 < xs.length
  · have t1 : decide ((xs.length : Int) > 50) = true := decide_eq_true (by omega)
    have t1b : (50 < xs.length) = True := eq_true h50
    clear h50
    go_enter Try.func14, Try.ntmps14
    go_wp2_with fail
    refine (awake06_T w).mono ?_
    rintro e w1 ⟨rfl, hb⟩
    have B1 := Aside0.mk hb
    clear hb
    go_wp2_with fail
    go_ret
    exact ⟨rfl, B1.out⟩
  by_cases h51 : 50 < ys.length
  · have t1 : decide ((xs.length : Int) > 50) = false := decide_eq_false (by omega)
    have t1b : (50 < xs.length) = False := eq_false h50
    have t2 : decide ((ys.length : Int) > 50) = true := decide_eq_true (by omega)
    have t2b : (50 < ys.length) = True := eq_true h51
    clear h50 h51
    go_enter Try.func14, Try.ntmps14
    go_wp2_with fail
    refine (awake06_T w).mono ?_
    rintro e w1 ⟨rfl, hb⟩
    have B1 := Aside0.mk hb
    clear hb
    go_wp2_with fail
    go_ret
    exact ⟨rfl, B1.out⟩
  have t1 : decide ((xs.length : Int) > 50) = false := decide_eq_false (by omega)
  have t1b : (50 < xs.length) = False := eq_false h50
  have t2 : decide ((ys.length : Int) > 50) = false := decide_eq_false (by omega)
  have t2b : (50 < ys.length) = False := eq_false h51
  have X50 := Aside0.mk (show xs.length ≤ 50 by omega)
  have Y50 := Aside0.mk (show ys.length ≤ 50 by omega)
  clear h50 h51
  go_enter Try.func14, Try.ntmps14
  go_wp2_with fail
  refine (awake06_T w).mono ?_
  rintro e w1 ⟨rfl, hb⟩
  have B1 := Aside0.mk hb
  clear hb
  go_wp2_with fail
  clear t1 t1b t2 t2b
  refine (soulNew_T w1).mono ?_
  rintro e w2 ⟨gs, g3, rfl, h1, h2⟩
  have S2 := Aside0.mk (h1.rebase (w0 := w) B1.out.size)
  have B2 := Aside0.mk (below_step B1.out h2)
  clear h1 h2 B1
  go_wp2_with fail
  go_loopg [6] xs.length (fun kq v6 w' => ∃ (i : Int) (v : Value) (now : List (Int × Int)) (row : List Int), v6 = .int .i64 i ∧ Aside0 (0 ≤ i ∧ i + kq = xs.length) ∧ Aside0 (SoulIs w w' gs g3 v now row) ∧ Aside0 (Rel6 now row) ∧ Aside0 (Below w.heap.size w w') ∧ Aside0 ((row.length : Int) ≤ i))
  case atStart => exact ⟨0, _, [], [], rfl, ⟨by omega⟩, S2, ⟨rel6_0⟩, B2, ⟨Int.le_refl _⟩⟩
  case round =>
    clear S2 B2
    obtain ⟨i, v, now, row, rfl, HK, JS, JL, JB, JN⟩ := hrel
    by_cases hi : i < (xs.length : Int)
    · have t1 : decide (i < (xs.length : Int)) = true := decide_eq_true hi
      have p0 : (0 : Int) ≤ i := HK.out.1
      have q0 : i < (xs.length : Int) := hi
      have q1 := Aside0.mk hi
      clear hi
      obtain ⟨ko, rfl⟩ : ∃ m, gk = m + 1 := ⟨gk - 1, by have := HK.out; have := q1.out; omega⟩
      obtain ⟨ad, e0, hx⟩ := Kd.at_int HR.out i p0 q0
      cases e0
      have HWF := Aside0.mk (show (Lit.int .i64 (rd xs i)).wf = true from HG.out _ (getD_mem' (by omega)))
      generalize rd xs i = y at *
      have hx1 := (JB.out.cell (World.block_lt_of_cell? w _ hx)).trans hx
      clear hx
      have p0b : decide (0 ≤ i) = true := decide_eq_true p0
      have wi : wrap64 (i + 1) = i + 1 := by have := q1.out; have := X50.out; unfold wrap64; omega
      replace p0 := eq_true p0
      replace q0 := eq_true q0
      have HL := Aside0.mk (show row.length ≤ 100000 by have := JN.out; have := q1.out; have := X50.out; omega)
      have HL2 := Aside0.mk (show (bornRow row y).length ≤ row.length + 1 by unfold bornRow; split; omega; rw [List.length_append, List.length_singleton]; omega)
      go_wp2_with fail
      refine (soulBorn_T gs g3 v now row y w _ JS.out JB.out HL.out).mono ?_
      rintro e w5 ⟨rfl, ⟨v5, h1⟩, h3, h4⟩
      have S5 := Aside0.mk h1
      have B5 := Aside0.mk h3
      have D5 := Aside0.mk (JL.out.born y HWF.out)
      clear h1 h3 h4 hx1
      go_wp2_with fail
      go_roundg ko
      case rel => exact ⟨i + 1, v5, _, _, by first | rfl | rw [wi], ⟨by have := HK.out; omega⟩, S5, D5, B5, ⟨by have := JN.out; have := HL2.out; omega⟩⟩
      case measure => exact Nat.lt_succ_self _
    · have t1 : decide (i < (xs.length : Int)) = false := decide_eq_false hi
      clear hi
      have HL50 := Aside0.mk (show row.length ≤ 50 by have := JN.out; have := HK.out; have := X50.out; omega)
      have HL := Aside0.mk (show row.length ≤ 100000 by have := HL50.out; omega)
      clear JN HK
      go_wp2_with fail
      clear t1
      refine (soulCount_T gs g3 v now row w _ JS.out).mono ?_
      rintro e w3 ⟨rfl, hb⟩
      have S3 := Aside0.mk (JS.out.below hb)
      have B3 := Aside0.mk (below_step JB.out hb)
      clear hb
      have N4 := Aside0.mk (Nev6.start S3.out B3.out.size)
      have B4 := Aside0.mk (below_alloc B3.out (.cells #[] 3))
      go_wp2_with fail
      clear S3 B3 JS JB
      generalize w3.alloc (.cells #[] 3) = w4 at *
      generalize (Value.slice (some ⟨w3.heap.size, 0, none⟩) 0 0) = u4 at *
      go_loopg [8, 9] row.length (fun kq v8 v9 w' => ∃ (id : Int) (u : Value), u = v8 ∧ v9 = .int .i64 id ∧ Aside0 (1 ≤ id ∧ id + kq = row.length + 1) ∧ Aside0 (Nev6 w w' gs g3 v now row u (wasF row (id - 1).toNat)) ∧ Aside0 (Below w.heap.size w w'))
      case atStart => exact ⟨1, u4, rfl, rfl, ⟨by omega⟩, N4, B4⟩
      case round =>
        clear N4 B4
        obtain ⟨id, u, rfl, rfl, HK, JN, JB⟩ := hrel
        by_cases hi : id ≤ (row.length : Int)
        · have t1 : decide (id ≤ (row.length : Int)) = true := decide_eq_true hi
          have q1 := Aside0.mk (show 1 ≤ id ∧ id ≤ (row.length : Int) from ⟨HK.out.1, hi⟩)
          clear hi
          obtain ⟨ko, rfl⟩ : ∃ m, gk = m + 1 := ⟨gk - 1, by have := HK.out; have := q1.out; omega⟩
          have wi : wrap64 (id + 1) = id + 1 := by have := q1.out; have := HL.out; unfold wrap64; omega
          obtain ⟨a, ha⟩ : ∃ z, slotR row id = z := ⟨_, rfl⟩
          have AT := Aside0.mk ha
          have NX := Aside0.mk (wasF_next row q1.out.1)
          clear ha
          have LW := Aside0.mk (show (wasF row (id - 1).toNat).length ≤ 100000 by rw [wasF_len]; have := q1.out; have := HL.out; omega)
          go_wp2_with fail
          refine (slotOf_T gs g3 v now row id w _ JN.out.S HL.out).mono ?_
          rintro e w5 ⟨rfl, hb⟩
          rw [AT.out]
          have J5 := Aside0.mk (JN.out.below hb)
          have B5 := Aside0.mk (below_step JB.out hb)
          clear hb
          go_wp2_with fail
          refine (soulIs_T gs g3 v now row a id w _ J5.out.S).mono ?_
          rintro e w6 ⟨rfl, hb⟩
          rw [isR_of JL.out q1.out.1]
          have J6 := Aside0.mk (J5.out.below hb)
          have B6 := Aside0.mk (below_step B5.out hb)
          clear hb
          by_cases he : nowR row a = id
          · rw [beq_iff_eq.2 he]
            have NY := Aside0.mk (show wasF row (id + 1 - 1).toNat = wasF row (id - 1).toNat ++ [1] by rw [NX.out, AT.out, if_pos he])
            clear he
            generalize wasF row (id - 1).toNat = wl at *
            go_wp2_with (first | ((with_reducible refine gate_builtin (b := .append) (xs := #[.tmp 58, .tmp 60]) rfl ?_); at_builtin; refine Kd.R_append (Kd.int .i64) w.heap.size rfl (.tmp 58) (.tmp 60) 56 3 (.int .i64 0) 8 rfl Try.underlying56 info3' rfl (by decide) (by omega) u wl 1 [.int .i64 1] (fun _ => True) (fun _ => False) rfl rfl ?aP (fun _ hk => hk.elim) (fun _ _ => trivial) J6.out.R B6.out ?aS ?aL ?_; (case aP => rfl); (case aS => exact B6.out.size); (case aL => have := LW.out; omega); intro v1 w7 ho hb hg hat; have J7 := Aside0.mk (J6.out.app hg ho hat); have B7 := Aside0.mk hb; clear ho hb hg hat))
            go_roundg ko
            case rel => exact ⟨id + 1, _, rfl, by first | rfl | rw [wi], ⟨by have := HK.out; omega⟩, ⟨by rw [NY.out]; exact J7.out⟩, B7⟩
            case measure => exact Nat.lt_succ_self _
          · rw [beq_eq_false_iff_ne.2 he]
            have NY := Aside0.mk (show wasF row (id + 1 - 1).toNat = wasF row (id - 1).toNat ++ [0] by rw [NX.out, AT.out, if_neg he])
            clear he
            generalize wasF row (id - 1).toNat = wl at *
            go_wp2_with (first | ((with_reducible refine gate_builtin (b := .append) (xs := #[.tmp 58, .tmp 60]) rfl ?_); at_builtin; refine Kd.R_append (Kd.int .i64) w.heap.size rfl (.tmp 58) (.tmp 60) 56 3 (.int .i64 0) 8 rfl Try.underlying56 info3' rfl (by decide) (by omega) u wl 0 [.int .i64 0] (fun _ => True) (fun _ => False) rfl rfl ?aP (fun _ hk => hk.elim) (fun _ _ => trivial) J6.out.R B6.out ?aS ?aL ?_; (case aP => rfl); (case aS => exact B6.out.size); (case aL => have := LW.out; omega); intro v1 w7 ho hb hg hat; have J7 := Aside0.mk (J6.out.app hg ho hat); have B7 := Aside0.mk hb; clear ho hb hg hat))
            go_roundg ko
            case rel => exact ⟨id + 1, _, rfl, by first | rfl | rw [wi], ⟨by have := HK.out; omega⟩, ⟨by rw [NY.out]; exact J7.out⟩, B7⟩
            case measure => exact Nat.lt_succ_self _
        · have t1 : decide (id ≤ (row.length : Int)) = false := decide_eq_false hi
          have EW := Aside0.mk (show (id - 1).toNat = row.length by have := HK.out; omega)
          clear hi HK
          rw [EW.out] at JN
          clear EW
          go_wp2_with fail
          clear t1
          obtain ⟨Au, cu, eu, _, _⟩ := Kd.R_reads JN.out.R
          rw [wasF_len] at eu
          subst eu
          go_loopg [12] ys.length (fun kq v12 w' => ∃ (i : Int) (v : Value) (now : List (Int × Int)) (ext : List Int), v12 = .int .i64 i ∧ Aside0 (0 ≤ i ∧ i + kq = ys.length) ∧ Aside0 (Nev6 w w' gs g3 v now (row ++ ext) (.slice Au row.length cu) (wasF row row.length)) ∧ Aside0 (Rel6 now (row ++ ext)) ∧ Aside0 (Below w.heap.size w w') ∧ Aside0 ((ext.length : Int) ≤ i))
          case atStart => exact ⟨0, v, now, [], rfl, ⟨by omega⟩, ⟨by rw [List.append_nil]; exact JN.out⟩, ⟨by rw [List.append_nil]; exact JL.out⟩, JB, ⟨Int.le_refl _⟩⟩
          case round =>
            clear JN JL JB
            obtain ⟨i, v, now, ext, rfl, HK, JN, JL, JB, JE⟩ := hrel
            have HLX := Aside0.mk (show (row ++ ext).length = row.length + ext.length from List.length_append)
            by_cases hi : i < (ys.length : Int)
            · have t1 : decide (i < (ys.length : Int)) = true := decide_eq_true hi
              have p0 : (0 : Int) ≤ i := HK.out.1
              have q0 : i < (ys.length : Int) := hi
              have q1 := Aside0.mk hi
              clear hi
              obtain ⟨ko, rfl⟩ : ∃ m, gk = m + 1 := ⟨gk - 1, by have := HK.out; have := q1.out; omega⟩
              obtain ⟨ad, e0, hx⟩ := Kd.at_int HR1.out i p0 q0
              cases e0
              have HWF := Aside0.mk (show (Lit.int .i64 (rd ys i)).wf = true from HG1.out _ (getD_mem' (by omega)))
              generalize rd ys i = y at *
              have HX := Aside0.mk hx
              have hx1 := (JB.out.cell (World.block_lt_of_cell? w _ hx)).trans hx
              clear hx
              have p0b : decide (0 ≤ i) = true := decide_eq_true p0
              have wi : wrap64 (i + 1) = i + 1 := by have := q1.out; have := Y50.out; unfold wrap64; omega
              replace p0 := eq_true p0
              replace q0 := eq_true q0
              have HL3 := Aside0.mk (show (row ++ ext).length ≤ 100000 by have := JE.out; have := q1.out; have := Y50.out; have := HL50.out; have := HLX.out; omega)
              go_wp2_with fail
              refine (soulBorn_U gs g3 v now (row ++ ext) y w _ JN.out.S JB.out HL3.out).mono ?_
              rintro e w5 ⟨rfl, ⟨v5, h1, h2⟩, h3, h4⟩
              have N5 := Aside0.mk (JN.out.sB h1 h2 h4)
              have B5 := Aside0.mk h3
              have D5 := Aside0.mk (JL.out.born y HWF.out)
              clear h1 h2 h3 h4 hx1
              by_cases hy : y < 1
              · rw [show bornId (row ++ ext) y = 0 from if_pos hy]
                have E3 := Aside0.mk (show bornRow (row ++ ext) y = row ++ ext from if_pos hy)
                rw [E3.out] at N5 D5
                clear hy
                go_wp2_with fail
                go_roundg ko
                case rel => exact ⟨i + 1, v5, _, ext, by first | rfl | rw [wi], ⟨by have := HK.out; omega⟩, N5, D5, B5, ⟨by have := JE.out; omega⟩⟩
                case measure => exact Nat.lt_succ_self _
              · obtain ⟨L, hL⟩ : ∃ L : Int, ((row ++ ext).length : Int) + 1 = L := ⟨_, rfl⟩
                rw [show bornId (row ++ ext) y = L from (if_neg hy).trans hL]
                have E3 := Aside0.mk (show bornRow (row ++ ext) y = row ++ (ext ++ [y]) from (if_neg hy).trans (List.append_assoc _ _ _))
                have E4 := Aside0.mk (show nowR (row ++ (ext ++ [y])) y = L by rw [← List.append_assoc, nowR_app, if_pos rfl, hL])
                rw [E3.out] at N5 D5
                have L0 := Aside0.mk (show 1 ≤ L by omega)
                have tL0 : (L != 0) = true := bne_iff_ne.2 (by omega)
                have tLn : decide (L ≤ (row.length : Int)) = false := decide_eq_false (by have := HLX.out; omega)
                clear hy hL
                have hx5 := (B5.out.cell (World.block_lt_of_cell? w _ HX.out)).trans HX.out
                go_wp2_with fail
                refine (soulIs_T gs g3 v5 _ _ y L w _ N5.out.S).mono ?_
                rintro e w6 ⟨rfl, hb⟩
                rw [isR_of D5.out L0.out, E4.out, beq_self_eq_true]
                have N6 := Aside0.mk (N5.out.below hb)
                have B6 := Aside0.mk (below_step B5.out hb)
                clear hb hx5
                go_wp2_with fail
                go_roundg ko
                case rel => exact ⟨i + 1, v5, _, ext ++ [y], by first | rfl | rw [wi], ⟨by have := HK.out; omega⟩, N6, D5, B6, ⟨by have := JE.out; rw [List.length_append, List.length_singleton]; omega⟩⟩
                case measure => exact Nat.lt_succ_self _
            · have t1 : decide (i < (ys.length : Int)) = false := decide_eq_false hi
              clear hi
              have HM := Aside0.mk (show (row ++ ext).length ≤ 100000 by have := JE.out; have := HK.out; have := Y50.out; have := HL50.out; have := HLX.out; omega)
              clear HK JE HLX
              go_wp2_with fail
              clear t1
              go_loopg [14] row.length (fun kq v14 w' => ∃ (id : Int), v14 = .int .i64 id ∧ Aside0 (1 ≤ id ∧ id + kq = row.length + 1) ∧ Aside0 (Nev6 w w' gs g3 v now (row ++ ext) (.slice Au row.length cu) (wasF row row.length)) ∧ Aside0 (Below w.heap.size w w'))
              case atStart => exact ⟨1, rfl, ⟨by omega⟩, JN, JB⟩
              case round =>
                clear JN JB
                obtain ⟨id, rfl, HK, JN, JB⟩ := hrel
                by_cases hi : id ≤ (row.length : Int)
                · have t1 : decide (id ≤ (row.length : Int)) = true := decide_eq_true hi
                  have q1 := Aside0.mk (show 1 ≤ id ∧ id ≤ (row.length : Int) from ⟨HK.out.1, hi⟩)
                  clear hi
                  obtain ⟨ko, rfl⟩ : ∃ m, gk = m + 1 := ⟨gk - 1, by have := HK.out; have := q1.out; omega⟩
                  have wi : wrap64 (id + 1) = id + 1 := by have := q1.out; have := HL.out; unfold wrap64; omega
                  obtain ⟨hn_, _, hCu⟩ := Kd.R_reads' JN.out.R
                  have RW := Aside0.mk (rd_wasF row q1.out.1 q1.out.2)
                  have NA := Aside0.mk (fun h => never_again row ext q1.out.1 q1.out.2 h)
                  obtain ⟨K, hK⟩ : ∃ K : Int, K = id - 1 := ⟨_, rfl⟩
                  rw [← hK] at RW
                  obtain ⟨au, e0, hx⟩ := Kd.at_int hCu K (by have := q1.out; omega) (by have := q1.out; omega)
                  cases e0
                  rw [RW.out] at hx
                  have wK : wrap64 (id - 1) = K := by have := q1.out; have := HL.out; rw [hK]; unfold wrap64; omega
                  have p0 : (0 ≤ K) = True := eq_true (by have := q1.out; omega)
                  have q0 : (K < (row.length : Int)) = True := eq_true (by have := q1.out; omega)
                  have p0b : decide (0 ≤ K) = true := decide_eq_true (by have := q1.out; omega)
                  clear hn_ hCu hK RW
                  by_cases he : nowR row (slotR row id) = id
                  · rw [if_pos he] at hx
                    clear he
                    go_wp2_with fail
                    go_roundg ko
                    case rel => exact ⟨id + 1, by first | rfl | rw [wi], ⟨by have := HK.out; omega⟩, JN, JB⟩
                    case measure => exact Nat.lt_succ_self _
                  · rw [if_neg he] at hx
                    have NB := Aside0.mk (NA.out he)
                    clear he NA
                    go_wp2_with fail
                    refine (slotOf_T gs g3 v now (row ++ ext) id w _ JN.out.S HM.out).mono ?_
                    rintro e w5 ⟨rfl, hb⟩
                    have J5 := Aside0.mk (JN.out.below hb)
                    have B5 := Aside0.mk (below_step JB.out hb)
                    clear hb hx
                    generalize slotR (row ++ ext) id = a at *
                    go_wp2_with fail
                    refine (soulIs_T gs g3 v now (row ++ ext) a id w _ J5.out.S).mono ?_
                    rintro e w6 ⟨rfl, hb⟩
                    rw [isR_of JL.out q1.out.1, NB.out]
                    have J6 := Aside0.mk (J5.out.below hb)
                    have B6 := Aside0.mk (below_step B5.out hb)
                    clear hb
                    go_wp2_with fail
                    go_roundg ko
                    case rel => exact ⟨id + 1, by first | rfl | rw [wi], ⟨by have := HK.out; omega⟩, J6, B6⟩
                    case measure => exact Nat.lt_succ_self _
                · have t1 : decide (id ≤ (row.length : Int)) = false := decide_eq_false hi
                  clear hi HK
                  go_wp2_with fail
                  clear t1
                  have SS := soulSlots_T gs g3 v now (row ++ ext) w _ JN.out.S JL.out.wf (Nat.le_trans JL.out.len HM.out)
                  rw [JL.out.keys] at SS
                  generalize row ++ ext = rx at *
                  refine SS.mono ?_
                  clear SS
                  rintro e w9 ⟨u9, rfl, hr9, hb⟩
                  obtain ⟨Al, cl, rfl, _, hCl⟩ := Kd.R_reads hr9
                  have S9 := Aside0.mk (JN.out.S.below hb)
                  have B9 := Aside0.mk (below_step JB.out hb)
                  have C9 := Aside0.mk hCl
                  clear hr9 hb hCl JN JB
                  obtain ⟨l, hl⟩ : ∃ l, (firsts rx rx.length).mergeSort leZ = l := ⟨_, rfl⟩
                  rw [hl] at C9
                  rw [hl]
                  have LQ := Aside0.mk (show l.length ≤ 100000 by rw [← hl, List.length_mergeSort]; exact Nat.le_trans (firsts_len rx rx.length) HM.out)
                  have LB := Aside0.mk (show ∀ k, 0 ≤ sumF rx l k ∧ sumF rx l k ≤ rx.length from fun k => hl ▸ sumF_le rx k)
                  have LA := Aside0.mk (show sumF rx l l.length = rx.length from hl ▸ sumF_all rx)
                  have LN := Aside0.mk (show l.Nodup from hl ▸ sorted_nodup rx)
                  have LZ := Aside0.mk (show ∀ i, i < l.length → nowR rx (l.getD i 0) ≠ 0 from hl ▸ fun i h => sorted_now rx h)
                  clear hl
                  go_wp2_with fail
                  go_loopg [16, 17] l.length (fun kq v16 v17 w' => ∃ (i s : Int), v16 = .int .i64 s ∧ v17 = .int .i64 i ∧ Aside0 (0 ≤ i ∧ i + kq = l.length) ∧ Aside0 (s = sumF rx l i.toNat) ∧ Aside0 (Below w9.heap.size w9 w'))
                  case atStart => exact ⟨0, 0, rfl, rfl, ⟨by omega⟩, ⟨rfl⟩, ⟨Below.refl _ _⟩⟩
                  case round =>
                    obtain ⟨i, s, rfl, rfl, HK, HS, JB⟩ := hrel
                    by_cases hi : i < (l.length : Int)
                    · have t1 : decide (i < (l.length : Int)) = true := decide_eq_true hi
                      have q1 := Aside0.mk (show 0 ≤ i ∧ i < (l.length : Int) from ⟨HK.out.1, hi⟩)
                      clear hi
                      obtain ⟨ko, rfl⟩ : ∃ m, gk = m + 1 := ⟨gk - 1, by have := HK.out; have := q1.out; omega⟩
                      have wi : wrap64 (i + 1) = i + 1 := by have := q1.out; have := LQ.out; unfold wrap64; omega
                      obtain ⟨al, e0, hx⟩ := Kd.at_int C9.out i q1.out.1 q1.out.2
                      cases e0
                      have SU := Aside0.mk (sumF_succ rx l q1.out.1 q1.out.2)
                      have XZ := Aside0.mk (show nowR rx (rd l i) ≠ 0 from LZ.out i.toNat (by have := q1.out; omega))
                      have XN := Aside0.mk (show 0 < i → rd l (i - 1) ≠ rd l i from fun h => nodup_ne LN.out (by omega) (by have := q1.out; omega))
                      generalize rd l i = x at *
                      have HX := Aside0.mk hx
                      have hx1 := (JB.out.cell (World.block_lt_of_cell? w9 _ hx)).trans hx
                      clear hx
                      have p0 : (0 ≤ i) = True := eq_true q1.out.1
                      have q0 : (i < (l.length : Int)) = True := eq_true q1.out.2
                      have p0b : decide (0 ≤ i) = true := decide_eq_true q1.out.1
                      go_wp2_with fail
                      refine (soulAll_T gs g3 v now rx x w _ (S9.out.below JB.out) HM.out).mono ?_
                      rintro e w6 ⟨u6, rfl, hr6, hb⟩
                      obtain ⟨Aa, ca, rfl, _, hCa⟩ := Kd.R_reads hr6
                      have B6 := Aside0.mk (below_step JB.out hb)
                      have AL := Aside0.mk (allF_last rx x rx.length)
                      obtain ⟨z, hz⟩ : ∃ z, nowR rx x = z := ⟨_, rfl⟩
                      have hz' : nowN rx x rx.length = z := hz
                      rw [hz'] at AL
                      rw [hz] at XZ
                      have NX := Aside0.mk (show (get now x).getD 0 = z by rw [JL.out.tell, hz])
                      have AN := Aside0.mk (show allF rx x rx.length ≠ [] from fun h => XZ.out (AL.out.1 h))
                      have AZ := Aside0.mk (AL.out.2 AN.out)
                      have M0 := Aside0.mk (show 0 < (allF rx x rx.length).length from List.length_pos_iff.2 AN.out)
                      have M1 := Aside0.mk (allF_len rx x rx.length)
                      have HZ := Aside0.mk hz
                      clear hz hz' hb hr6 hx1 AL AN
                      generalize allF rx x rx.length = al6 at *
                      obtain ⟨m, hm⟩ : ∃ m, al6.length = m := ⟨_, rfl⟩
                      rw [hm] at hCa M0 M1 AZ SU
                      rw [hm]
                      obtain ⟨K, hK⟩ : ∃ K : Int, K = (m : Int) - 1 := ⟨_, rfl⟩
                      obtain ⟨aa, e0, hy⟩ := Kd.at_int hCa K (by have := M0.out; omega) (by omega)
                      cases e0
                      have hy2 : rd al6 K = z := by
                        have e : al6.getD K.toNat 0 = z := by rw [show K.toNat = m - 1 by omega]; exact AZ.out
                        exact e
                      rw [hy2] at hy
                      have LB1 := Aside0.mk (LB.out (i + 1).toNat)
                      have LB0 := Aside0.mk (LB.out i.toNat)
                      have ws : wrap64 (s + (m : Int)) = sumF rx l (i + 1).toNat := by have := LB1.out; have := SU.out; have := HS.out; have := HM.out; rw [SU.out, ← HS.out]; unfold wrap64; omega
                      have wK : wrap64 ((m : Int) - 1) = K := by have := M0.out; have := M1.out; have := HM.out; rw [hK]; unfold wrap64; omega
                      have a0 : (0 ≤ K) = True := eq_true (by have := M0.out; omega)
                      have a1 : (K < (m : Int)) = True := eq_true (by omega)
                      have a0b : decide (0 ≤ K) = true := decide_eq_true (by have := M0.out; omega)
                      have tm : ((m : Int) == 0) = false := beq_eq_false_iff_ne.2 (by have := M0.out; omega)
                      have tz : (z != z) = false := by simp
                      have SD := Aside0.mk ((S9.out.below B6.out).drew)
                      have D1 := Aside0.mk (show w6.drew.cell? (al.add i.toNat) = some (.int .i64 x) from (B6.out.cell (World.block_lt_of_cell? w9 _ HX.out)).trans HX.out)
                      have D3 := Aside0.mk (show w6.drew.cell? (aa.add K.toNat) = some (.int .i64 z) from hy)
                      have BD := Aside0.mk (below_drew B6.out)
                      clear hy hy2 hK hm hCa
                      obtain ⟨s', hs'⟩ : ∃ z, sumF rx l (i + 1).toNat = z := ⟨_, rfl⟩
                      have SPR := Aside0.mk hs'.symm
                      rw [hs'] at ws
                      clear hs'
                      by_cases hi0 : 0 < i
                      · have t3 : decide (i > 0) = true := decide_eq_true hi0
                        obtain ⟨L, hL⟩ : ∃ L : Int, L = i - 1 := ⟨_, rfl⟩
                        obtain ⟨al', e1, hv⟩ := Kd.at_int C9.out L (by omega) (by have := q1.out; omega)
                        cases e1
                        have XM := Aside0.mk (show rd l L ≠ x from by rw [hL]; exact XN.out hi0)
                        generalize rd l L = y at *
                        obtain ⟨ny, hny⟩ : ∃ z, nowR rx y = z := ⟨_, rfl⟩
                        have NY := Aside0.mk (show (get now y).getD 0 = ny by rw [JL.out.tell, hny])
                        have tyz : (ny == z) = false := beq_eq_false_iff_ne.2 (fun e => XM.out (nowR_inj rx (a := y) (b := x) (by rw [hny, e]; exact XZ.out) (by rw [hny, e, HZ.out])))
                        have wL : wrap64 (i - 1) = L := by have := q1.out; have := LQ.out; rw [hL]; unfold wrap64; omega
                        have b0 : (0 ≤ L) = True := eq_true (by omega)
                        have b1 : (L < (l.length : Int)) = True := eq_true (by have := q1.out; omega)
                        have b0b : decide (0 ≤ L) = true := decide_eq_true (by omega)
                        have D2 := Aside0.mk (show w6.drew.cell? (al.add L.toNat) = some (.int .i64 y) from (B6.out.cell (World.block_lt_of_cell? w9 _ hv)).trans hv)
                        clear hv hny hL hi0
                        go_wp2_with fail
                        refine start_ (n := 38) (S := fun w' => w'.cell? (al.add i.toNat) = some (.int .i64 x) ∧ w'.cell? (al.add L.toNat) = some (.int .i64 y) ∧ w'.cell? (aa.add K.toNat) = some (.int .i64 z)) (ds := []) (lb 38 0) (by kernel_rfl) rfl rfl ⟨D1.out, D2.out, D3.out⟩ (fun hHeld => ?_)
                        refine pS (v := ?_) (a' := ?_) 0 (some 130) (lb 38 1) rfl rfl (by kernel_rfl) (fun _ _ _ h => h) (by rfl) ?_ ?_ ?_; rotate_left; (intro w'; go_simp; with_reducible rfl); rotate_left; (simp only [Act.put, List.setIfInBounds_toArray, List.set_cons_zero, List.set_cons_succ, i64_w, i32_w]; rfl)
                        refine pS (v := ?_) (a' := ?_) 1 (some 131) (lb 38 3) rfl rfl (by kernel_rfl) (fun _ _ _ h => h) (by rfl) ?_ ?_ ?_; rotate_left; (intro w'; go_simp; with_reducible rfl); rotate_left; (simp only [Act.put, List.setIfInBounds_toArray, List.set_cons_zero, List.set_cons_succ, i64_w, i32_w]; rfl)
                        refine pS (v := ?_) (a' := ?_) 2 (some 132) (lb 38 7) rfl rfl (by kernel_rfl) (fun _ _ _ h => h) (by rfl) ?_ ?_ ?_; rotate_left; (intro w'; go_simp; with_reducible rfl); rotate_left; (simp only [Act.put, List.setIfInBounds_toArray, List.set_cons_zero, List.set_cons_succ, i64_w, i32_w]; rfl)
                        refine pS (v := ?_) (a' := ?_) 3 (some 133) (lb 38 15) rfl rfl (by kernel_rfl) (fun _ _ _ h => h) (by rfl) ?_ ?_ ?_; rotate_left; (intro w'; go_simp; with_reducible rfl); rotate_left; (simp only [Act.put, List.setIfInBounds_toArray, List.set_cons_zero, List.set_cons_succ, i64_w, i32_w]; rfl)
                        refine pS (v := ?_) (a' := ?_) 4 (some 134) (lb 38 31) rfl rfl (by kernel_rfl) (fun _ _ _ h => h) (by rfl) ?_ ?_ ?_; rotate_left; (intro w'; go_simp; with_reducible rfl); rotate_left; (simp only [Act.put, List.setIfInBounds_toArray, List.set_cons_zero, List.set_cons_succ, i64_w, i32_w]; rfl)
                        refine pS (v := ?_) (a' := ?_) 5 (some 135) (lb 38 63) rfl rfl (by kernel_rfl) (fun _ _ _ h => h) (by rfl) ?_ ?_ ?_; rotate_left; (intro w'; go_simp; with_reducible rfl); rotate_left; (simp only [Act.put, List.setIfInBounds_toArray, List.set_cons_zero, List.set_cons_succ, i64_w, i32_w]; rfl)
                        refine pS (v := ?_) (a' := ?_) 6 (some 136) (lb 38 127) rfl rfl (by kernel_rfl) (fun _ _ _ h => h) (by rfl) ?_ ?_ ?_; rotate_left; (intro w'; go_simp; with_reducible rfl); rotate_left; (simp only [Act.put, List.setIfInBounds_toArray, List.set_cons_zero, List.set_cons_succ, i64_w, i32_w]; rfl)
                        refine pS (v := ?_) (a' := ?_) 7 (some 137) (lb 38 255) rfl rfl (by kernel_rfl) (fun _ _ _ h => h) (by rfl) ?_ ?_ ?_; rotate_left; (intro w'; go_simp; with_reducible rfl); rotate_left; (simp only [Act.put, List.setIfInBounds_toArray, List.set_cons_zero, List.set_cons_succ, i64_w, i32_w]; rfl)
                        refine pS (v := ?_) (a' := ?_) 10 (some 140) (lb 38 1279) rfl rfl (by kernel_rfl) (fun _ _ _ h => h) (by rfl) ?_ ?_ ?_; rotate_left; (intro w'; go_simp; with_reducible rfl); rotate_left; (simp only [Act.put, List.setIfInBounds_toArray, List.set_cons_zero, List.set_cons_succ, i64_w, i32_w]; rfl)
                        refine pS (v := ?_) (a' := ?_) 11 (some 141) (lb 38 3327) rfl rfl (by kernel_rfl) (fun _ _ _ h => h) (by rfl) ?_ ?_ ?_; rotate_left; (intro w'; go_simp; with_reducible rfl); rotate_left; (simp only [Act.put, List.setIfInBounds_toArray, List.set_cons_zero, List.set_cons_succ, i64_w, i32_w]; rfl)
                        refine pS (v := ?_) (a' := ?_) 12 (some 142) (lb 38 7423) rfl rfl (by kernel_rfl) (fun _ _ _ h => h) (by rfl) ?_ ?_ ?_; rotate_left; (intro w'; go_simp; with_reducible rfl); rotate_left; (simp only [Act.put, List.setIfInBounds_toArray, List.set_cons_zero, List.set_cons_succ, i64_w, i32_w]; rfl)
                        refine pS (v := ?_) (a' := ?_) 13 (some 143) (lb 38 15615) rfl rfl (by kernel_rfl) (fun _ _ _ h => h) (by rfl) ?_ ?_ ?_; rotate_left; (intro w'; go_simp; with_reducible rfl); rotate_left; (simp only [Act.put, List.setIfInBounds_toArray, List.set_cons_zero, List.set_cons_succ, i64_w, i32_w]; rfl)
                        refine pS (v := ?_) (a' := ?_) 14 (some 144) (lb 38 31999) rfl rfl (by kernel_rfl) (fun _ _ _ h => h) (by rfl) ?_ ?_ ?_; rotate_left; (intro w'; go_simp; with_reducible rfl); rotate_left; (simp only [Act.put, List.setIfInBounds_toArray, List.set_cons_zero, List.set_cons_succ, i64_w, i32_w]; rfl)
                        refine tS (v := ?_) (a' := ?_) 8 (some 138) (lb 38 32255) rfl rfl (by kernel_rfl) (fun _ _ _ h => h) hHeld (by rfl) ?_ ?_ ?_; rotate_left; (rintro w' ⟨s0, s1, s2⟩; go_simp; with_reducible rfl); rotate_left; (simp only [Act.put, List.setIfInBounds_toArray, List.set_cons_zero, List.set_cons_succ, i64_w, i32_w]; rfl)
                        refine tS (v := ?_) (a' := ?_) 15 (some 145) (lb 38 65023) rfl rfl (by kernel_rfl) (fun _ _ _ h => h) hHeld (by rfl) ?_ ?_ ?_; rotate_left; (rintro w' ⟨s0, s1, s2⟩; go_simp; with_reducible rfl); rotate_left; (simp only [Act.put, List.setIfInBounds_toArray, List.set_cons_zero, List.set_cons_succ, i64_w, i32_w]; rfl)
                        refine one_ (i := 9) (N := some 139) (lb 38 65535) rfl rfl (by kernel_rfl) (by decide) (fun K hK => ?_)
                        refine goes_ Try.func41 (by kernel_rfl) rfl #[.pointer (some ⟨gs, 0, none⟩), .int .i64 x] (by rfl) rfl rfl (by simp only [List.map_toArray, List.map_cons, List.map_nil]; rfl) ?_
                        with_reducible refine (soulNow_T gs g3 v now rx x w _ SD.out).mono ?_
                        rintro e w7 ⟨rfl, hb⟩
                        refine ⟨_, rfl, ?_⟩
                        rw [NX.out]
                        have Q7 := Aside0.mk hb
                        have SD7 := Aside0.mk (SD.out.below hb)
                        clear hb
                        refine hK.out _ _ ⟨(Q7.out.cell (World.block_lt_of_cell? _ _ D1.out)).trans D1.out, (Q7.out.cell (World.block_lt_of_cell? _ _ D2.out)).trans D2.out, (Q7.out.cell (World.block_lt_of_cell? _ _ D3.out)).trans D3.out⟩ (fun hHeld => ?_)
                        clear hK K
                        refine norm_ (a' := ?_) ?_ ?_
                        rotate_left
                        · show Act.put _ (some 139) _ = _
                          simp only [Act.put, List.setIfInBounds_toArray, List.set_cons_zero, List.set_cons_succ, i64_w, i32_w]
                          rfl
                        refine pS (v := ?_) (a' := ?_) 16 (some 146) (lb 38 131071) rfl rfl (by kernel_rfl) (fun _ _ _ h => h) (by rfl) ?_ ?_ ?_; rotate_left; (intro w'; go_simp; with_reducible rfl); rotate_left; (simp only [Act.put, List.setIfInBounds_toArray, List.set_cons_zero, List.set_cons_succ, i64_w, i32_w]; rfl)
                        refine pS (v := ?_) (a' := ?_) 17 (some 147) (lb 38 262143) rfl rfl (by kernel_rfl) (fun _ _ _ h => h) (by rfl) ?_ ?_ ?_; rotate_left; (intro w'; go_simp; with_reducible rfl); rotate_left; (simp only [Act.put, List.setIfInBounds_toArray, List.set_cons_zero, List.set_cons_succ, i64_w, i32_w]; rfl)
                        refine pS (v := ?_) (a' := ?_) 18 (some 148) (lb 38 524287) rfl rfl (by kernel_rfl) (fun _ _ _ h => h) (by rfl) ?_ ?_ ?_; rotate_left; (intro w'; go_simp; with_reducible rfl); rotate_left; (simp only [Act.put, List.setIfInBounds_toArray, List.set_cons_zero, List.set_cons_succ, i64_w, i32_w]; rfl)
                        refine pS (v := ?_) (a' := ?_) 19 (some 149) (lb 38 1048575) rfl rfl (by kernel_rfl) (fun _ _ _ h => h) (by rfl) ?_ ?_ ?_; rotate_left; (intro w'; go_simp; with_reducible rfl); rotate_left; (simp only [Act.put, List.setIfInBounds_toArray, List.set_cons_zero, List.set_cons_succ, i64_w, i32_w]; rfl)
                        refine pS (v := ?_) (a' := ?_) 20 (some 150) (lb 38 2097151) rfl rfl (by kernel_rfl) (fun _ _ _ h => h) (by rfl) ?_ ?_ ?_; rotate_left; (intro w'; go_simp; with_reducible rfl); rotate_left; (simp only [Act.put, List.setIfInBounds_toArray, List.set_cons_zero, List.set_cons_succ, i64_w, i32_w]; rfl)
                        refine pS (v := ?_) (a' := ?_) 21 (some 151) (lb 38 4194303) rfl rfl (by kernel_rfl) (fun _ _ _ h => h) (by rfl) ?_ ?_ ?_; rotate_left; (intro w'; go_simp; with_reducible rfl); rotate_left; (simp only [Act.put, List.setIfInBounds_toArray, List.set_cons_zero, List.set_cons_succ, i64_w, i32_w]; rfl)
                        refine pS (v := ?_) (a' := ?_) 22 (some 152) (lb 38 8388607) rfl rfl (by kernel_rfl) (fun _ _ _ h => h) (by rfl) ?_ ?_ ?_; rotate_left; (intro w'; go_simp; with_reducible rfl); rotate_left; (simp only [Act.put, List.setIfInBounds_toArray, List.set_cons_zero, List.set_cons_succ, i64_w, i32_w]; rfl)
                        refine pS (v := ?_) (a' := ?_) 23 (some 153) (lb 38 16777215) rfl rfl (by kernel_rfl) (fun _ _ _ h => h) (by rfl) ?_ ?_ ?_; rotate_left; (intro w'; go_simp; with_reducible rfl); rotate_left; (simp only [Act.put, List.setIfInBounds_toArray, List.set_cons_zero, List.set_cons_succ, i64_w, i32_w]; rfl)
                        refine pS (v := ?_) (a' := ?_) 24 (some 154) (lb 38 33554431) rfl rfl (by kernel_rfl) (fun _ _ _ h => h) (by rfl) ?_ ?_ ?_; rotate_left; (intro w'; go_simp; with_reducible rfl); rotate_left; (simp only [Act.put, List.setIfInBounds_toArray, List.set_cons_zero, List.set_cons_succ, i64_w, i32_w]; rfl)
                        refine pS (v := ?_) (a' := ?_) 25 (some 155) (lb 38 67108863) rfl rfl (by kernel_rfl) (fun _ _ _ h => h) (by rfl) ?_ ?_ ?_; rotate_left; (intro w'; go_simp; with_reducible rfl); rotate_left; (simp only [Act.put, List.setIfInBounds_toArray, List.set_cons_zero, List.set_cons_succ, i64_w, i32_w]; rfl)
                        refine pS (v := ?_) (a' := ?_) 26 (some 156) (lb 38 134217727) rfl rfl (by kernel_rfl) (fun _ _ _ h => h) (by rfl) ?_ ?_ ?_; rotate_left; (intro w'; go_simp; with_reducible rfl); rotate_left; (simp only [Act.put, List.setIfInBounds_toArray, List.set_cons_zero, List.set_cons_succ, i64_w, i32_w]; rfl)
                        refine pS (v := ?_) (a' := ?_) 29 (some 159) (lb 38 671088639) rfl rfl (by kernel_rfl) (fun _ _ _ h => h) (by rfl) ?_ ?_ ?_; rotate_left; (intro w'; go_simp; with_reducible rfl); rotate_left; (simp only [Act.put, List.setIfInBounds_toArray, List.set_cons_zero, List.set_cons_succ, i64_w, i32_w]; rfl)
                        refine pS (v := ?_) (a' := ?_) 30 (some 160) (lb 38 1744830463) rfl rfl (by kernel_rfl) (fun _ _ _ h => h) (by rfl) ?_ ?_ ?_; rotate_left; (intro w'; go_simp; with_reducible rfl); rotate_left; (simp only [Act.put, List.setIfInBounds_toArray, List.set_cons_zero, List.set_cons_succ, i64_w, i32_w]; rfl)
                        refine pS (v := ?_) (a' := ?_) 31 (some 161) (lb 38 3892314111) rfl rfl (by kernel_rfl) (fun _ _ _ h => h) (by rfl) ?_ ?_ ?_; rotate_left; (intro w'; go_simp; with_reducible rfl); rotate_left; (simp only [Act.put, List.setIfInBounds_toArray, List.set_cons_zero, List.set_cons_succ, i64_w, i32_w]; rfl)
                        refine pS (v := ?_) (a' := ?_) 32 (some 162) (lb 38 8187281407) rfl rfl (by kernel_rfl) (fun _ _ _ h => h) (by rfl) ?_ ?_ ?_; rotate_left; (intro w'; go_simp; with_reducible rfl); rotate_left; (simp only [Act.put, List.setIfInBounds_toArray, List.set_cons_zero, List.set_cons_succ, i64_w, i32_w]; rfl)
                        refine tS (v := ?_) (a' := ?_) 27 (some 157) (lb 38 8321499135) rfl rfl (by kernel_rfl) (fun _ _ _ h => h) hHeld (by rfl) ?_ ?_ ?_; rotate_left; (rintro w' ⟨s0, s1, s2⟩; go_simp; with_reducible rfl); rotate_left; (simp only [Act.put, List.setIfInBounds_toArray, List.set_cons_zero, List.set_cons_succ, i64_w, i32_w]; rfl)
                        refine tS (v := ?_) (a' := ?_) 33 (some 163) (lb 38 16911433727) rfl rfl (by kernel_rfl) (fun _ _ _ h => h) hHeld (by rfl) ?_ ?_ ?_; rotate_left; (rintro w' ⟨s0, s1, s2⟩; go_simp; with_reducible rfl); rotate_left; (simp only [Act.put, List.setIfInBounds_toArray, List.set_cons_zero, List.set_cons_succ, i64_w, i32_w]; rfl)
                        refine one_ (i := 28) (N := some 158) (lb 38 17179869183) rfl rfl (by kernel_rfl) (by decide) (fun K hK => ?_)
                        refine goes_ Try.func41 (by kernel_rfl) rfl #[.pointer (some ⟨gs, 0, none⟩), .int .i64 y] (by rfl) rfl rfl (by simp only [List.map_toArray, List.map_cons, List.map_nil]; rfl) ?_
                        with_reducible refine (soulNow_T gs g3 v now rx y w _ SD7.out).mono ?_
                        rintro e w8 ⟨rfl, hb⟩
                        refine ⟨_, rfl, ?_⟩
                        rw [NY.out]
                        have Q8 := Aside0.mk (below_step Q7.out hb)
                        have SD8 := Aside0.mk (SD7.out.below hb)
                        clear hb
                        refine hK.out _ _ ⟨(Q8.out.cell (World.block_lt_of_cell? _ _ D1.out)).trans D1.out, (Q8.out.cell (World.block_lt_of_cell? _ _ D2.out)).trans D2.out, (Q8.out.cell (World.block_lt_of_cell? _ _ D3.out)).trans D3.out⟩ (fun hHeld => ?_)
                        clear hK K
                        refine norm_ (a' := ?_) ?_ ?_
                        rotate_left
                        · show Act.put _ (some 158) _ = _
                          simp only [Act.put, List.setIfInBounds_toArray, List.set_cons_zero, List.set_cons_succ, i64_w, i32_w]
                          rfl
                        refine one_ (i := 34) (N := some 164) (lb 38 34359738367) rfl rfl (by kernel_rfl) (by decide) (fun K hK => ?_)
                        refine goes_ Try.func41 (by kernel_rfl) rfl #[.pointer (some ⟨gs, 0, none⟩), .int .i64 x] (by rfl) rfl rfl (by simp only [List.map_toArray, List.map_cons, List.map_nil]; rfl) ?_
                        with_reducible refine (soulNow_T gs g3 v now rx x w _ SD8.out).mono ?_
                        rintro e w10 ⟨rfl, hb⟩
                        refine ⟨_, rfl, ?_⟩
                        rw [NX.out]
                        have Q9 := Aside0.mk (below_step Q8.out hb)
                        clear hb
                        refine hK.out _ _ ⟨(Q9.out.cell (World.block_lt_of_cell? _ _ D1.out)).trans D1.out, (Q9.out.cell (World.block_lt_of_cell? _ _ D2.out)).trans D2.out, (Q9.out.cell (World.block_lt_of_cell? _ _ D3.out)).trans D3.out⟩ (fun hHeld => ?_)
                        clear hK K
                        refine norm_ (a' := ?_) ?_ ?_
                        rotate_left
                        · show Act.put _ (some 164) _ = _
                          simp only [Act.put, List.setIfInBounds_toArray, List.set_cons_zero, List.set_cons_succ, i64_w, i32_w]
                          rfl
                        refine pS (v := ?_) (a' := ?_) 35 (some 165) (lb 38 68719476735) rfl rfl (by kernel_rfl) (fun _ _ _ h => h) (by rfl) ?_ ?_ ?_; rotate_left; (intro w'; go_simp; with_reducible rfl); rotate_left; (simp only [Act.put, List.setIfInBounds_toArray, List.set_cons_zero, List.set_cons_succ, i64_w, i32_w]; rfl)
                        refine pS (v := ?_) (a' := ?_) 36 (some 166) (lb 38 137438953471) rfl rfl (by kernel_rfl) (fun _ _ _ h => h) (by rfl) ?_ ?_ ?_; rotate_left; (intro w'; go_simp; with_reducible rfl); rotate_left; (simp only [Act.put, List.setIfInBounds_toArray, List.set_cons_zero, List.set_cons_succ, i64_w, i32_w]; rfl)
                        refine pS (v := ?_) (a' := ?_) 37 (some 167) (lb 38 274877906943) rfl rfl (by kernel_rfl) (fun _ _ _ h => h) (by rfl) ?_ ?_ ?_; rotate_left; (intro w'; go_simp; with_reducible rfl); rotate_left; (simp only [Act.put, List.setIfInBounds_toArray, List.set_cons_zero, List.set_cons_succ, i64_w, i32_w]; rfl)
                        refine done_ (by kernel_rfl) ?_
                        go_wp2_with fail
                        go_roundg ko
                        case rel => exact ⟨i + 1, s', by first | rfl | rw [ws], by first | rfl | rw [wi], ⟨by have := HK.out; omega⟩, ⟨SPR.out⟩, ⟨below_step BD.out Q9.out⟩⟩
                        case measure => exact Nat.lt_succ_self _
                      · have t3 : decide (i > 0) = false := decide_eq_false hi0
                        clear hi0
                        go_wp2_with fail
                        refine start_ (n := 38) (S := fun w' => w'.cell? (al.add i.toNat) = some (.int .i64 x) ∧ w'.cell? (aa.add K.toNat) = some (.int .i64 z)) (ds := []) (lb 38 0) (by kernel_rfl) rfl rfl ⟨D1.out, D3.out⟩ (fun hHeld => ?_)
                        refine pS (v := ?_) (a' := ?_) 0 (some 130) (lb 38 1) rfl rfl (by kernel_rfl) (fun _ _ _ h => h) (by rfl) ?_ ?_ ?_; rotate_left; (intro w'; go_simp; with_reducible rfl); rotate_left; (simp only [Act.put, List.setIfInBounds_toArray, List.set_cons_zero, List.set_cons_succ, i64_w, i32_w]; rfl)
                        refine pS (v := ?_) (a' := ?_) 1 (some 131) (lb 38 3) rfl rfl (by kernel_rfl) (fun _ _ _ h => h) (by rfl) ?_ ?_ ?_; rotate_left; (intro w'; go_simp; with_reducible rfl); rotate_left; (simp only [Act.put, List.setIfInBounds_toArray, List.set_cons_zero, List.set_cons_succ, i64_w, i32_w]; rfl)
                        refine pS (v := ?_) (a' := ?_) 2 (some 132) (lb 38 7) rfl rfl (by kernel_rfl) (fun _ _ _ h => h) (by rfl) ?_ ?_ ?_; rotate_left; (intro w'; go_simp; with_reducible rfl); rotate_left; (simp only [Act.put, List.setIfInBounds_toArray, List.set_cons_zero, List.set_cons_succ, i64_w, i32_w]; rfl)
                        refine pS (v := ?_) (a' := ?_) 3 (some 133) (lb 38 15) rfl rfl (by kernel_rfl) (fun _ _ _ h => h) (by rfl) ?_ ?_ ?_; rotate_left; (intro w'; go_simp; with_reducible rfl); rotate_left; (simp only [Act.put, List.setIfInBounds_toArray, List.set_cons_zero, List.set_cons_succ, i64_w, i32_w]; rfl)
                        refine pS (v := ?_) (a' := ?_) 4 (some 134) (lb 38 31) rfl rfl (by kernel_rfl) (fun _ _ _ h => h) (by rfl) ?_ ?_ ?_; rotate_left; (intro w'; go_simp; with_reducible rfl); rotate_left; (simp only [Act.put, List.setIfInBounds_toArray, List.set_cons_zero, List.set_cons_succ, i64_w, i32_w]; rfl)
                        refine pS (v := ?_) (a' := ?_) 5 (some 135) (lb 38 63) rfl rfl (by kernel_rfl) (fun _ _ _ h => h) (by rfl) ?_ ?_ ?_; rotate_left; (intro w'; go_simp; with_reducible rfl); rotate_left; (simp only [Act.put, List.setIfInBounds_toArray, List.set_cons_zero, List.set_cons_succ, i64_w, i32_w]; rfl)
                        refine pS (v := ?_) (a' := ?_) 6 (some 136) (lb 38 127) rfl rfl (by kernel_rfl) (fun _ _ _ h => h) (by rfl) ?_ ?_ ?_; rotate_left; (intro w'; go_simp; with_reducible rfl); rotate_left; (simp only [Act.put, List.setIfInBounds_toArray, List.set_cons_zero, List.set_cons_succ, i64_w, i32_w]; rfl)
                        refine pS (v := ?_) (a' := ?_) 7 (some 137) (lb 38 255) rfl rfl (by kernel_rfl) (fun _ _ _ h => h) (by rfl) ?_ ?_ ?_; rotate_left; (intro w'; go_simp; with_reducible rfl); rotate_left; (simp only [Act.put, List.setIfInBounds_toArray, List.set_cons_zero, List.set_cons_succ, i64_w, i32_w]; rfl)
                        refine pS (v := ?_) (a' := ?_) 10 (some 140) (lb 38 1279) rfl rfl (by kernel_rfl) (fun _ _ _ h => h) (by rfl) ?_ ?_ ?_; rotate_left; (intro w'; go_simp; with_reducible rfl); rotate_left; (simp only [Act.put, List.setIfInBounds_toArray, List.set_cons_zero, List.set_cons_succ, i64_w, i32_w]; rfl)
                        refine pS (v := ?_) (a' := ?_) 11 (some 141) (lb 38 3327) rfl rfl (by kernel_rfl) (fun _ _ _ h => h) (by rfl) ?_ ?_ ?_; rotate_left; (intro w'; go_simp; with_reducible rfl); rotate_left; (simp only [Act.put, List.setIfInBounds_toArray, List.set_cons_zero, List.set_cons_succ, i64_w, i32_w]; rfl)
                        refine pS (v := ?_) (a' := ?_) 12 (some 142) (lb 38 7423) rfl rfl (by kernel_rfl) (fun _ _ _ h => h) (by rfl) ?_ ?_ ?_; rotate_left; (intro w'; go_simp; with_reducible rfl); rotate_left; (simp only [Act.put, List.setIfInBounds_toArray, List.set_cons_zero, List.set_cons_succ, i64_w, i32_w]; rfl)
                        refine pS (v := ?_) (a' := ?_) 13 (some 143) (lb 38 15615) rfl rfl (by kernel_rfl) (fun _ _ _ h => h) (by rfl) ?_ ?_ ?_; rotate_left; (intro w'; go_simp; with_reducible rfl); rotate_left; (simp only [Act.put, List.setIfInBounds_toArray, List.set_cons_zero, List.set_cons_succ, i64_w, i32_w]; rfl)
                        refine pS (v := ?_) (a' := ?_) 14 (some 144) (lb 38 31999) rfl rfl (by kernel_rfl) (fun _ _ _ h => h) (by rfl) ?_ ?_ ?_; rotate_left; (intro w'; go_simp; with_reducible rfl); rotate_left; (simp only [Act.put, List.setIfInBounds_toArray, List.set_cons_zero, List.set_cons_succ, i64_w, i32_w]; rfl)
                        refine tS (v := ?_) (a' := ?_) 8 (some 138) (lb 38 32255) rfl rfl (by kernel_rfl) (fun _ _ _ h => h) hHeld (by rfl) ?_ ?_ ?_; rotate_left; (rintro w' ⟨s0, s1⟩; go_simp; with_reducible rfl); rotate_left; (simp only [Act.put, List.setIfInBounds_toArray, List.set_cons_zero, List.set_cons_succ, i64_w, i32_w]; rfl)
                        refine tS (v := ?_) (a' := ?_) 15 (some 145) (lb 38 65023) rfl rfl (by kernel_rfl) (fun _ _ _ h => h) hHeld (by rfl) ?_ ?_ ?_; rotate_left; (rintro w' ⟨s0, s1⟩; go_simp; with_reducible rfl); rotate_left; (simp only [Act.put, List.setIfInBounds_toArray, List.set_cons_zero, List.set_cons_succ, i64_w, i32_w]; rfl)
                        refine one_ (i := 9) (N := some 139) (lb 38 65535) rfl rfl (by kernel_rfl) (by decide) (fun K hK => ?_)
                        refine goes_ Try.func41 (by kernel_rfl) rfl #[.pointer (some ⟨gs, 0, none⟩), .int .i64 x] (by rfl) rfl rfl (by simp only [List.map_toArray, List.map_cons, List.map_nil]; rfl) ?_
                        with_reducible refine (soulNow_T gs g3 v now rx x w _ SD.out).mono ?_
                        rintro e w7 ⟨rfl, hb⟩
                        refine ⟨_, rfl, ?_⟩
                        rw [NX.out]
                        have Q7 := Aside0.mk hb
                        clear hb
                        refine hK.out _ _ ⟨(Q7.out.cell (World.block_lt_of_cell? _ _ D1.out)).trans D1.out, (Q7.out.cell (World.block_lt_of_cell? _ _ D3.out)).trans D3.out⟩ (fun hHeld => ?_)
                        clear hK K
                        refine norm_ (a' := ?_) ?_ ?_
                        rotate_left
                        · show Act.put _ (some 139) _ = _
                          simp only [Act.put, List.setIfInBounds_toArray, List.set_cons_zero, List.set_cons_succ, i64_w, i32_w]
                          rfl
                        refine pS (v := ?_) (a' := ?_) 16 (some 146) (lb 38 131071) rfl rfl (by kernel_rfl) (fun _ _ _ h => h) (by rfl) ?_ ?_ ?_; rotate_left; (intro w'; go_simp; with_reducible rfl); rotate_left; (simp only [Act.put, List.setIfInBounds_toArray, List.set_cons_zero, List.set_cons_succ, i64_w, i32_w]; rfl)
                        refine pS (v := ?_) (a' := ?_) 17 (some 147) (lb 38 262143) rfl rfl (by kernel_rfl) (fun _ _ _ h => h) (by rfl) ?_ ?_ ?_; rotate_left; (intro w'; go_simp; with_reducible rfl); rotate_left; (simp only [Act.put, List.setIfInBounds_toArray, List.set_cons_zero, List.set_cons_succ, i64_w, i32_w]; rfl)
                        refine pS (v := ?_) (a' := ?_) 18 (some 148) (lb 38 524287) rfl rfl (by kernel_rfl) (fun _ _ _ h => h) (by rfl) ?_ ?_ ?_; rotate_left; (intro w'; go_simp; with_reducible rfl); rotate_left; (simp only [Act.put, List.setIfInBounds_toArray, List.set_cons_zero, List.set_cons_succ, i64_w, i32_w]; rfl)
                        refine pS (v := ?_) (a' := ?_) 19 (some 149) (lb 38 1048575) rfl rfl (by kernel_rfl) (fun _ _ _ h => h) (by rfl) ?_ ?_ ?_; rotate_left; (intro w'; go_simp; with_reducible rfl); rotate_left; (simp only [Act.put, List.setIfInBounds_toArray, List.set_cons_zero, List.set_cons_succ, i64_w, i32_w]; rfl)
                        refine pS (v := ?_) (a' := ?_) 20 (some 150) (lb 38 2097151) rfl rfl (by kernel_rfl) (fun _ _ _ h => h) (by rfl) ?_ ?_ ?_; rotate_left; (intro w'; go_simp; with_reducible rfl); rotate_left; (simp only [Act.put, List.setIfInBounds_toArray, List.set_cons_zero, List.set_cons_succ, i64_w, i32_w]; rfl)
                        refine pS (v := ?_) (a' := ?_) 21 (some 151) (lb 38 4194303) rfl rfl (by kernel_rfl) (fun _ _ _ h => h) (by rfl) ?_ ?_ ?_; rotate_left; (intro w'; go_simp; with_reducible rfl); rotate_left; (simp only [Act.put, List.setIfInBounds_toArray, List.set_cons_zero, List.set_cons_succ, i64_w, i32_w]; rfl)
                        refine pO (a' := ?_) 22 (some 152) (lb 38 8388607) rfl rfl (by kernel_rfl) (fun _ _ _ h => h) (by rfl) ?_ ?_; rotate_left; (simp only [Act.put, List.setIfInBounds_toArray, List.set_cons_zero, List.set_cons_succ, i64_w, i32_w]; rfl)
                        refine pO (a' := ?_) 23 (some 153) (lb 38 16777215) rfl rfl (by kernel_rfl) (fun _ _ _ h => h) (by rfl) ?_ ?_; rotate_left; (simp only [Act.put, List.setIfInBounds_toArray, List.set_cons_zero, List.set_cons_succ, i64_w, i32_w]; rfl)
                        refine pO (a' := ?_) 24 (some 154) (lb 38 33554431) rfl rfl (by kernel_rfl) (fun _ _ _ h => h) (by rfl) ?_ ?_; rotate_left; (simp only [Act.put, List.setIfInBounds_toArray, List.set_cons_zero, List.set_cons_succ, i64_w, i32_w]; rfl)
                        refine pO (a' := ?_) 25 (some 155) (lb 38 67108863) rfl rfl (by kernel_rfl) (fun _ _ _ h => h) (by rfl) ?_ ?_; rotate_left; (simp only [Act.put, List.setIfInBounds_toArray, List.set_cons_zero, List.set_cons_succ, i64_w, i32_w]; rfl)
                        refine pO (a' := ?_) 26 (some 156) (lb 38 134217727) rfl rfl (by kernel_rfl) (fun _ _ _ h => h) (by rfl) ?_ ?_; rotate_left; (simp only [Act.put, List.setIfInBounds_toArray, List.set_cons_zero, List.set_cons_succ, i64_w, i32_w]; rfl)
                        refine pO (a' := ?_) 27 (some 157) (lb 38 268435455) rfl rfl (by kernel_rfl) (fun _ _ _ h => h) (by rfl) ?_ ?_; rotate_left; (simp only [Act.put, List.setIfInBounds_toArray, List.set_cons_zero, List.set_cons_succ, i64_w, i32_w]; rfl)
                        refine pO (a' := ?_) 28 (some 158) (lb 38 536870911) rfl rfl (by kernel_rfl) (fun _ _ _ h => h) (by rfl) ?_ ?_; rotate_left; (simp only [Act.put, List.setIfInBounds_toArray, List.set_cons_zero, List.set_cons_succ, i64_w, i32_w]; rfl)
                        refine pO (a' := ?_) 29 (some 159) (lb 38 1073741823) rfl rfl (by kernel_rfl) (fun _ _ _ h => h) (by rfl) ?_ ?_; rotate_left; (simp only [Act.put, List.setIfInBounds_toArray, List.set_cons_zero, List.set_cons_succ, i64_w, i32_w]; rfl)
                        refine pO (a' := ?_) 30 (some 160) (lb 38 2147483647) rfl rfl (by kernel_rfl) (fun _ _ _ h => h) (by rfl) ?_ ?_; rotate_left; (simp only [Act.put, List.setIfInBounds_toArray, List.set_cons_zero, List.set_cons_succ, i64_w, i32_w]; rfl)
                        refine pO (a' := ?_) 31 (some 161) (lb 38 4294967295) rfl rfl (by kernel_rfl) (fun _ _ _ h => h) (by rfl) ?_ ?_; rotate_left; (simp only [Act.put, List.setIfInBounds_toArray, List.set_cons_zero, List.set_cons_succ, i64_w, i32_w]; rfl)
                        refine pO (a' := ?_) 32 (some 162) (lb 38 8589934591) rfl rfl (by kernel_rfl) (fun _ _ _ h => h) (by rfl) ?_ ?_; rotate_left; (simp only [Act.put, List.setIfInBounds_toArray, List.set_cons_zero, List.set_cons_succ, i64_w, i32_w]; rfl)
                        refine pO (a' := ?_) 33 (some 163) (lb 38 17179869183) rfl rfl (by kernel_rfl) (fun _ _ _ h => h) (by rfl) ?_ ?_; rotate_left; (simp only [Act.put, List.setIfInBounds_toArray, List.set_cons_zero, List.set_cons_succ, i64_w, i32_w]; rfl)
                        refine pO (a' := ?_) 34 (some 164) (lb 38 34359738367) rfl rfl (by kernel_rfl) (fun _ _ _ h => h) (by rfl) ?_ ?_; rotate_left; (simp only [Act.put, List.setIfInBounds_toArray, List.set_cons_zero, List.set_cons_succ, i64_w, i32_w]; rfl)
                        refine pO (a' := ?_) 35 (some 165) (lb 38 68719476735) rfl rfl (by kernel_rfl) (fun _ _ _ h => h) (by rfl) ?_ ?_; rotate_left; (simp only [Act.put, List.setIfInBounds_toArray, List.set_cons_zero, List.set_cons_succ, i64_w, i32_w]; rfl)
                        refine pS (v := ?_) (a' := ?_) 36 (some 166) (lb 38 137438953471) rfl rfl (by kernel_rfl) (fun _ _ _ h => h) (by rfl) ?_ ?_ ?_; rotate_left; (intro w'; go_simp; with_reducible rfl); rotate_left; (simp only [Act.put, List.setIfInBounds_toArray, List.set_cons_zero, List.set_cons_succ, i64_w, i32_w]; rfl)
                        refine pS (v := ?_) (a' := ?_) 37 (some 167) (lb 38 274877906943) rfl rfl (by kernel_rfl) (fun _ _ _ h => h) (by rfl) ?_ ?_ ?_; rotate_left; (intro w'; go_simp; with_reducible rfl); rotate_left; (simp only [Act.put, List.setIfInBounds_toArray, List.set_cons_zero, List.set_cons_succ, i64_w, i32_w]; rfl)
                        refine done_ (by kernel_rfl) ?_
                        go_wp2_with fail
                        go_roundg ko
                        case rel => exact ⟨i + 1, s', by first | rfl | rw [ws], by first | rfl | rw [wi], ⟨by have := HK.out; omega⟩, ⟨SPR.out⟩, ⟨below_step BD.out Q7.out⟩⟩
                        case measure => exact Nat.lt_succ_self _
                    · have t1 : decide (i < (l.length : Int)) = false := decide_eq_false hi
                      have E := Aside0.mk (show s = (rx.length : Int) by rw [HS.out, show i.toNat = l.length by have := HK.out; omega]; exact LA.out)
                      clear hi
                      go_wp2_with fail
                      refine (soulCount_T gs g3 v now rx w _ (S9.out.below JB.out)).mono ?_
                      rintro e w10 ⟨rfl, hb⟩
                      have BE := Aside0.mk (below_step B9.out (below_step JB.out hb))
                      have te : (s == (rx.length : Int)) = true := beq_iff_eq.2 E.out
                      clear hb
                      go_wp2_with fail
                      go_ret
                      exact ⟨rfl, BE.out⟩
def revenantlaw06_SoulNever.f (xs ys : List Int) : Option Bool := if (∀ x ∈ xs, (Lit.int .i64 x).wf = true) ∧ ∀ x ∈ ys, (Lit.int .i64 x).wf = true then some true else none
theorem revenantlaw06_SoulNever.calls (A0_ : Option Addr) (c0 : Nat) (xs : List Int) (A1_ : Option Addr) (c1 : Nat) (ys : List Int) (r : Bool) (w : World) (hr0 : Kd.C (Kd.int .i64) w A0_ xs.length xs) (hc0 : xs.length ≤ c0) (hr1 : Kd.C (Kd.int .i64) w A1_ ys.length ys) (hc1 : ys.length ≤ c1) (h : revenantlaw06_SoulNever.f xs ys = some r) :
    Calls Try.prog 14 #[.slice A0_ xs.length c0, .slice A1_ ys.length c1] w fun e w' => e = .returned (.bool r) ∧ Below w.heap.size w w' := by
  unfold revenantlaw06_SoulNever.f at h
  by_cases hw : (∀ x ∈ xs, (Lit.int .i64 x).wf = true) ∧ ∀ x ∈ ys, (Lit.int .i64 x).wf = true
  · rw [if_pos hw] at h
    obtain rfl := Option.some.inj h
    exact never06T A0_ A1_ c0 c1 xs ys w hr0 hc0 hr1 hc1 hw.1 hw.2
  · rw [if_neg hw] at h
    cases h
theorem RSoulNever (xs ys : List Int) {P Q P1 Q1 : Prop} (g : P ∧ Q ∧ ∀ x ∈ xs, (Lit.int .i64 x).wf = true) (g1 : P1 ∧ Q1 ∧ ∀ x ∈ ys, (Lit.int .i64 x).wf = true) : revenantlaw06_SoulNever.f xs ys = some true := if_pos ⟨g.2.2, g1.2.2⟩
end Go.Proofs.Ytlpnggapndokeaa.PIdealKeeps

