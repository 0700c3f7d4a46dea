/-
THE CONTRACT OF THE REFERENCE'S Apart (a local array of bools): whether fields are apart, as a function on lists. No condition beyond the slice's own reading.
-/
import Derived.Test.YtmdncdepdnpjiaaPFieldPacksx0
import Derived.Test.YtmdncdepdnpjiaaPFieldPacksx1
import Derived.Test.YtmdncdepdnpjiaaPFieldPacksx2
import Derived.Test.YtmdncdepdnpjiaaWords
namespace Go.Proofs.Ytmdncdepdnpjiaa.PFieldPacks
open Go.RowKit Go.Proofs.YtmdncdepdnpjiaaW.PrintWords Go.Proofs.YtmdncdepdnpjiaaW.PrintLast Go.Proofs.YtmdncdepdnpjiaaW.PrintMore Go.Proofs.Ytmdncdepdnpjiaa.U
set_option linter.unusedVariables false
/-- The bits as a row of bools. -/
def bl (U : BitVec 64) : Array Value := ((List.range 64).map fun b => Value.bool (U.getLsbD b)).toArray
theorem bl_get (U : BitVec 64) (b : Nat) (h : b < 64) : (bl U)[b]? = some (.bool (U.getLsbD b)) := by simp [bl, h]
theorem bl_size (U : BitVec 64) : (bl U).size = 64 := by simp [bl]
/-- One bit more. -/
def bitB (b : Nat) : BitVec 64 := 1#64 <<< b
theorem bitB_bit (b i : Nat) (hi : i < 64) : (bitB b).getLsbD i = decide (i = b) := by
  unfold bitB
  rw [BitVec.getLsbD_shiftLeft]
  simp [hi]
  by_cases h : i < b
  · simp [h]; omega
  · simp [h]; omega
theorem bl_set (U : BitVec 64) (b : Nat) (h : b < 64) : (bl U).setIfInBounds b (.bool true) = bl (U ||| bitB b) := by
  apply Array.ext
  · simp [bl_size]
  · intro i h1 h2
    have hi : i < 64 := by simpa [bl] using h2
    rw [Array.getElem_setIfInBounds (by simpa [bl_size] using hi)]
    simp only [bl, List.getElem_toArray, List.getElem_map, List.getElem_range, BitVec.getLsbD_or, bitB_bit b i hi]
    by_cases e : b = i
    · simp [e]
    · have : ¬ i = b := fun h => e h.symm
      simp [e, this]
/-- A field that can be, as the reference has it. -/
def IsR (f : S26) : Prop := 0 ≤ f.f0 ∧ 1 ≤ f.f1 ∧ f.f1 ≤ 64 ∧ f.f0 ≤ 64 - f.f1
instance (f : S26) : Decidable (IsR f) := by unfold IsR; exact inferInstance
theorem isR_f (f : S26) : revenantref01_Field_Is.f f.f0 f.f1 = some (decide (IsR f)) := by
  unfold revenantref01_Field_Is.f
  by_cases h : IsR f
  · obtain ⟨h1, h2, h3, h4⟩ := id h
    rw [decide_eq_true h, if_pos (by omega), if_pos (by omega), if_pos (by omega), w64 (by omega) (by omega), decide_eq_true (by omega)]
  · rw [decide_eq_false h]
    unfold IsR at h
    by_cases h1 : f.f0 ≥ 0
    · rw [if_pos h1]
      by_cases h2 : f.f0 ≤ 63
      · rw [if_pos h2]
        by_cases h3 : f.f1 ≥ 1
        · rw [if_pos h3, w64 (by omega) (by omega), decide_eq_false (by omega)]
        · rw [if_neg h3]
      · rw [if_neg h2]
    · rw [if_neg h1]
def bitsR (f : S26) : BitVec 64 := mask f.f1.toNat <<< f.f0.toNat
/-- Whether fields are apart, behind used bits. -/
def apartR : BitVec 64 → List S26 → Bool
  | _, [] => true
  | u, f :: fs => if IsR f ∧ u &&& bitsR f = 0#64 then apartR (u ||| bitsR f) fs else false
theorem drop_rd26 (xs : List S26) (i : Int) (h0 : 0 ≤ i) (h1 : i < xs.length) : xs.drop i.toNat = rd_T26 xs i :: xs.drop (i + 1).toNat := by
  have h : i.toNat < xs.length := by omega
  rw [List.drop_eq_getElem_cons h]
  congr 1
  · simp [rd_T26, h]
  · congr 1; omega
theorem part_bit {f : S26} (hf : IsR f) {j : Int} (h0 : 0 ≤ j) (h1 : j ≤ f.f1) (b : Nat) (hb : b < 64) : (mask j.toNat <<< f.f0.toNat).getLsbD b = (decide (f.f0.toNat ≤ b) && decide (b < f.f0.toNat + j.toNat)) := by
  obtain ⟨g1, g2, g3, g4⟩ := hf
  rw [BitVec.getLsbD_shiftLeft, mask_bit (by omega)]
  by_cases h : b < f.f0.toNat
  · have : ¬ f.f0.toNat ≤ b := by omega
    simp [h, this]
  · have h2 : f.f0.toNat ≤ b := by omega
    by_cases h3 : b < f.f0.toNat + j.toNat
    · have : b - f.f0.toNat < j.toNat := by omega
      simp [h, h2, h3, hb, this]
    · have : ¬ b - f.f0.toNat < j.toNat := by omega
      simp [h, h3, this]
theorem part_next {f : S26} (hf : IsR f) {j : Int} (h0 : 0 ≤ j) (h1 : j < f.f1) (U : BitVec 64) : U ||| (mask j.toNat <<< f.f0.toNat) ||| bitB (f.f0 + j).toNat = U ||| (mask (j + 1).toNat <<< f.f0.toNat) := by
  have hf' := hf
  obtain ⟨g1, g2, g3, g4⟩ := hf'
  apply eq_of_bits
  intro b hb
  rw [BitVec.getLsbD_or, BitVec.getLsbD_or, BitVec.getLsbD_or, part_bit hf h0 (by omega) b hb, part_bit hf (by omega) (by omega) b hb, bitB_bit _ _ hb]
  cases U.getLsbD b
  · rw [Bool.false_or, Bool.false_or, Bool.eq_iff_iff]
    simp only [Bool.or_eq_true, Bool.and_eq_true, decide_eq_true_eq]
    omega
  · simp
theorem part_free {f : S26} (hf : IsR f) {j : Int} (h0 : 0 ≤ j) (h1 : j < f.f1) {U : BitVec 64} (hU : U &&& (mask j.toNat <<< f.f0.toNat) = 0#64) (hb : (U ||| (mask j.toNat <<< f.f0.toNat)).getLsbD (f.f0 + j).toNat = false) :
    U &&& (mask (j + 1).toNat <<< f.f0.toNat) = 0#64 := by
  have hf' := hf
  obtain ⟨g1, g2, g3, g4⟩ := hf'
  rw [BitVec.getLsbD_or, Bool.or_eq_false_iff] at hb
  apply eq_of_bits
  intro b hb2
  have hz : (U &&& (mask j.toNat <<< f.f0.toNat)).getLsbD b = false := by rw [hU]; simp
  rw [BitVec.getLsbD_and, part_bit hf h0 (by omega) b hb2] at hz
  rw [BitVec.getLsbD_and, part_bit hf (by omega) (by omega) b hb2]
  by_cases e : b = (f.f0 + j).toNat
  · rw [e, hb.1]; simp
  · cases hu : U.getLsbD b
    · simp
    · rw [hu] at hz
      simp at hz ⊢
      intro h2
      have := hz h2
      omega
theorem part_met {f : S26} (hf : IsR f) {j : Int} (h0 : 0 ≤ j) (h1 : j < f.f1) {U : BitVec 64} (hb : (U ||| (mask j.toNat <<< f.f0.toNat)).getLsbD (f.f0 + j).toNat = true) : ¬ U &&& bitsR f = 0#64 := by
  have hf' := hf
  obtain ⟨g1, g2, g3, g4⟩ := hf'
  intro hz
  have hlt : (f.f0 + j).toNat < 64 := by omega
  rw [BitVec.getLsbD_or, part_bit hf h0 (by omega) _ hlt] at hb
  have hz2 : (U &&& bitsR f).getLsbD (f.f0 + j).toNat = false := by rw [hz]; simp
  unfold bitsR at hz2
  rw [BitVec.getLsbD_and, part_bit hf (by omega) (by omega) _ hlt] at hz2
  have a1 : decide (f.f0.toNat ≤ (f.f0 + j).toNat) = true := decide_eq_true (by omega)
  have a2 : decide ((f.f0 + j).toNat < f.f0.toNat + j.toNat) = false := decide_eq_false (by omega)
  have a3 : decide ((f.f0 + j).toNat < f.f0.toNat + f.f1.toNat) = true := decide_eq_true (by omega)
  rw [a1, a2] at hb
  rw [a1, a3] at hz2
  simp at hb hz2
  rw [hb] at hz2
  cases hz2
theorem part_none (f : S26) (U : BitVec 64) : U ||| (mask (0 : Int).toNat <<< f.f0.toNat) = U ∧ U &&& (mask (0 : Int).toNat <<< f.f0.toNat) = 0#64 := by
  have e : mask (0 : Int).toNat = 0#64 := by decide
  rw [e]
  simp
def revenantref01_Apart.f (l0 : List S26) : Option Bool := some (apartR 0#64 l0)

section
variable {P : Program} {ops : Array Oper} {rest : List Oper} {o : Oper} {a : Act} {Q : Exit → Act → World → Prop}
/-- A whole variable is written (a block that was made since w): what it holds then. -/
theorem store_whole {w W : World} (hN : o.dst = none) (hgd : o.guard = none) (t : TypeId) (p x : Operand) (ho : o.op = .store t p x) {g e : Nat} {cur cs : Array Value} (haddr : a.eval p = .pointer (some ⟨g, 0, none⟩)) (u : Value) (hx : a.eval x = u)
    (hu : u.cells.toList = cs.toList) (ht : (P.info? t).map (·.size) = some cs.toList.length) (h1 : ∀ q ∈ cs.toList, q.oneCell' = true) (hh : W.heap[g]? = some (.cells cur e (0, 0))) (hs : cur.size = cs.size) (hg : w.heap.size ≤ g) (HB : Below w.heap.size w W)
    (h : ∀ w1, w1.heap[g]? = some (.cells cs e (0, 0)) → Below w.heap.size w w1 → wpList P ops Q rest a w1) : wpList P ops Q (o :: rest) a W := by
  have hrun : (Instr.storeAt t (.pointer (some ⟨g, 0, none⟩)) u).run P W = .ok () (W.setCells g 0 cs.toList) := run_store_run t u cs.toList hh hu ht (by rw [Array.length_toList]; omega) h1
  obtain ⟨cur', hc1, hc2, hc3⟩ := setCells_row cs.toList 0 W cur hh (by rw [Array.length_toList]; omega)
  have hcc : cur' = cs := by
    apply Array.ext'
    rw [hc3]
    simp
    omega
  rw [hcc] at hc1
  obtain ⟨s1, s2, s3, s4⟩ := setCells_same g cs.toList 0 W
  have hB : Below w.heap.size w (W.setCells g 0 cs.toList) := HB.trans ⟨s1, s2, s3, by omega, fun k hk => setCells_far cs.toList 0 k (by omega)⟩
  refine wpList_plain hgd fun K hK => ?_
  unfold Oper.wp execOp
  simp only [ho, haddr, hx, Sem.run_bind, Sem.run_pure, Result.andThen_ok, hrun]
  show K (a.put o.dst undef) _
  rw [hN]
  exact hK a _ (h _ hc1 hB)
end
theorem bl_one (U : BitVec 64) : ∀ q ∈ (bl U).toList, q.oneCell' = true := by
  intro q hq
  simp [bl] at hq
  obtain ⟨b, _, rfl⟩ := hq
  rfl

set_option maxHeartbeats 4000000 in
set_option maxRecDepth 100000 in
theorem revenantref01_Apart.calls (A0 : Option Addr) (c0 : Nat) (l0 : List (S26)) (r : Bool) (w : World) (hr0 : Kd.C k26 w A0 l0.length l0) (hc0 : l0.length ≤ c0) (h : revenantref01_Apart.f l0 = some r) :
    Calls Try.prog 47 #[.slice A0 l0.length c0] w fun e w' => e = .returned (.bool r) ∧ Below w.heap.size w w' := by
  have hu71 := Try.underlying71
  have hu26 := Try.underlying26
  have HR0 := Aside0.mk hr0
  have HC0 := Aside0.mk hc0
  have HA := Aside0.mk (Option.some.inj h)
  clear hr0 hc0 h
  go_enter Try.func47, Try.ntmps47
  go_wp2_with (first | (refine store_whole (w := w) rfl rfl 71 _ _ rfl (g := w.heap.size) rfl _ rfl (cs := bl 0#64) ?hu (by as_aux_lemma => kernel_rfl) (bl_one _) (blk_new w _) ?hs (Nat.le_refl _) (below_alloc (Below.refl _ _) _) ?_; (case hu => as_aux_lemma => kernel_rfl); (case hs => as_aux_lemma => kernel_rfl); intro w1 BK0 HB0; have BK := Aside0.mk BK0; have HB := Aside0.mk HB0; clear BK0 HB0))
  generalize Value.agg _ = v6
  go_loopg [2, 4] l0.length (fun kq v2 v4 w' => ∃ (i : Int) (U : BitVec 64), v2 = .bool false ∧ v4 = .int .i64 i ∧ Aside0 (0 ≤ i ∧ i + kq = l0.length) ∧ Aside0 (apartR U (l0.drop i.toNat) = r) ∧ Aside0 (w'.heap[w.heap.size]? = some (.cells (bl U) 71 (0, 0))) ∧ Aside0 (Below w.heap.size w w'))
  case atStart => exact ⟨0, 0#64, rfl, rfl, ⟨by omega⟩, HA, BK, HB⟩
  case round =>
    clear BK HB HA
    obtain ⟨i, U, rfl, rfl, HK, HA, BK, HB⟩ := hrel
    by_cases hi : i < (l0.length : Int)
    · have c2b0 : decide (i < (l0.length : Int)) = true := decide_eq_true hi
      have p0 : (0 : Int) ≤ i := HK.out.1
      have q0 : i < (l0.length : Int) := hi
      clear hi
      obtain ⟨ko, rfl⟩ : ∃ m, gk = m + 1 := ⟨gk - 1, by have := HK.out; omega⟩
      have hd := HA.out
      rw [drop_rd26 l0 i p0 q0] at hd
      unfold apartR at hd
      have HD := Aside0.mk hd
      clear hd HA
      obtain ⟨ad, e0, hx0, hx1⟩ := at_T26 HR0.out i p0 q0
      cases e0
      have gx0 := Aside0.mk hx0
      have gx1 := Aside0.mk hx1
      replace hx0 := (HB.out.cell (World.block_lt_of_cell? w _ hx0)).trans hx0
      replace hx1 := (HB.out.cell (World.block_lt_of_cell? w _ hx1)).trans hx1
      have p0b : decide (0 ≤ i) = true := decide_eq_true p0
      have p0c := Aside0.mk p0
      have q0c := Aside0.mk q0
      replace p0 := eq_true p0
      replace q0 := eq_true q0
      go_wp2_with fail
      refine (revenantref01_Field_Is.calls (rd_T26 l0 i).f0 (rd_T26 l0 i).f1 _ _ (isR_f (rd_T26 l0 i))).mono ?_
      rintro e w2 ⟨rfl, hb⟩
      have n0_ := Aside0.mk (below_step HB.out hb)
      have n1_ := Aside0.mk (blk_below BK.out hb)
      replace hx0 := (hb.cell (World.block_lt_of_cell? wr _ hx0)).trans hx0
      replace hx1 := (hb.cell (World.block_lt_of_cell? wr _ hx1)).trans hx1
      clear HB BK hb
      have HB := n0_
      have BK := n1_
      clear n0_ n1_
      by_cases hf : IsR (rd_T26 l0 i)
      · rw [decide_eq_true hf]
        have HF := Aside0.mk hf
        clear hf
        go_wp2_with fail
        go_loopg [2, 5] (rd_T26 l0 i).f1.toNat (fun kr v2 v5 w' => ∃ (j : Int), v2 = .bool false ∧ v5 = .int .i64 j ∧ Aside0 (0 ≤ j ∧ j + kr = (rd_T26 l0 i).f1) ∧ Aside0 (w'.heap[w.heap.size]? = some (.cells (bl (U ||| (mask j.toNat <<< (rd_T26 l0 i).f0.toNat))) 71 (0, 0))) ∧ Aside0 (U &&& (mask j.toNat <<< (rd_T26 l0 i).f0.toNat) = 0#64) ∧ Aside0 (Below w.heap.size w w'))
        case atStart => exact ⟨0, rfl, rfl, ⟨by have := HF.out.2.1; omega⟩, ⟨by rw [(part_none _ U).1]; exact BK.out⟩, ⟨(part_none _ U).2⟩, HB⟩
        case round =>
          clear BK HB
          obtain ⟨j, rfl, rfl, HJ, BK, HU, HB⟩ := hrel
          replace hx0 := (HB.out.cell (World.block_lt_of_cell? w _ gx0.out)).trans gx0.out
          replace hx1 := (HB.out.cell (World.block_lt_of_cell? w _ gx1.out)).trans gx1.out
          by_cases hj : j < (rd_T26 l0 i).f1
          · have d1 : decide (j < (rd_T26 l0 i).f1) = true := decide_eq_true hj
            have b0 : 0 ≤ (rd_T26 l0 i).f0 := HF.out.1
            have b1 : 0 ≤ j := HJ.out.1
            have b2 : (rd_T26 l0 i).f0 + j < 64 := by have := HF.out.2.2.2; omega
            have b3 : j < 64 := by omega
            have b4 : (rd_T26 l0 i).f0 < 64 := by omega
            have HJ2 := Aside0.mk hj
            clear hj
            have hfz := blk_frozen BK.out ((rd_T26 l0 i).f0 + j).toNat
            by_cases hbit : (U ||| (mask j.toNat <<< (rd_T26 l0 i).f0.toNat)).getLsbD ((rd_T26 l0 i).f0 + j).toNat = true
            · have hc : wr.cell? ⟨w.heap.size, ((rd_T26 l0 i).f0 + j).toNat, none⟩ = some (.bool true) := (blk_cell BK.out _).trans ((bl_get _ _ (by omega)).trans (by rw [hbit]))
              obtain rfl : r = false := by
                have := HD.out
                rw [if_neg (fun hh => part_met HF.out b1 HJ2.out hbit hh.2)] at this
                exact this.symm
              clear hbit
              go_wp2_with fail
              go_ret
              exact ⟨rfl, HB.out⟩
            · have hc : wr.cell? ⟨w.heap.size, ((rd_T26 l0 i).f0 + j).toNat, none⟩ = some (.bool false) := (blk_cell BK.out _).trans ((bl_get _ _ (by omega)).trans (by rw [Bool.eq_false_iff.2 hbit]))
              have HN := Aside0.mk (part_free HF.out b1 HJ2.out HU.out (Bool.eq_false_iff.2 hbit))
              clear hbit
              cases gk with
              | zero => exact absurd HJ.out.2 (by have := HJ2.out; omega)
              | succ k1 =>
                go_wp2_with fail
                go_roundg k1
                case rel => exact ⟨j + 1, rfl, rfl, ⟨by have := HJ.out; omega⟩, ⟨by rw [← part_next HF.out b1 HJ2.out]; exact blk_put BK.out _ _ (bl_set _ _ (by omega))⟩, HN, ⟨below_set HB.out (Nat.le_refl _)⟩⟩
                case measure => exact Nat.lt_succ_self _
          · have d1 : decide (j < (rd_T26 l0 i).f1) = false := decide_eq_false hj
            have HE := Aside0.mk hj
            clear hj
            have HL := Aside0.mk (show (l0.length : Int) ≤ 9223372036854775807 from by have := HR0.out.2.1; omega)
            have b5 : i < 9223372036854775807 := by have := q0c.out; have := HL.out; omega
            have b6 : 0 ≤ i := p0c.out
            go_wp2_with fail
            go_roundg ko
            case rel =>
              have e : j = (rd_T26 l0 i).f1 := by have := HJ.out.2; have := HE.out; omega
              refine ⟨i + 1, U ||| bitsR (rd_T26 l0 i), rfl, rfl, ⟨by have := HK.out; omega⟩, ⟨?_⟩, ⟨?_⟩, HB⟩
              · have := HD.out
                have hU := HU.out
                rw [e] at hU
                rw [if_pos ⟨HF.out, hU⟩] at this
                exact this
              · have := BK.out
                rw [e] at this
                exact this
            case measure => exact Nat.lt_succ_self _
      · rw [decide_eq_false hf]
        obtain rfl : r = false := by
          have := HD.out
          rw [if_neg (fun hh => hf hh.1)] at this
          exact this.symm
        clear hf
        go_wp2_with fail
        go_ret
        exact ⟨rfl, HB.out⟩
    · have c2b0 : decide (i < (l0.length : Int)) = false := decide_eq_false hi
      obtain rfl : r = true := by
        have := HA.out
        rw [List.drop_of_length_le (by omega)] at this
        exact this.symm
      clear hi
      go_wp2_with fail
      go_ret
      exact ⟨rfl, HB.out⟩
end Go.Proofs.Ytmdncdepdnpjiaa.PFieldPacks
