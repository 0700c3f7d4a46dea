/-
Who slots are, and the ideal memory: what their functions compute.
-/
import Derived.Test.YtlpnggapndokeaaMapK
import Derived.Test.YtlpnggapndokeaaPIdealKeepsx1
import Derived.Test.YtlpnggapndokeaaWMore
namespace Go.Proofs.Ytlpnggapndokeaa.PIdealKeeps
open Go Go.RowKit Go.Proofs.YtlpnggapndokeaaW.PrintWords Go.Proofs.YtlpnggapndokeaaW.PrintLast Go.Proofs.YtlpnggapndokeaaW.PrintMore Go.Proofs.Ytlpnggapndokeaa.M
attribute [local go_sem] max2_int min2_int max_two min_two max_three min_three max_four min_four
set_option linter.unusedVariables false
set_option linter.unusedSimpArgs false
abbrev eI : Int → Value := fun k => .int .i64 k
abbrev eU : Int → Value := fun k => .int .u64 k
theorem keyI : KeyOf Try.prog 3 eI := M.keyOf_int Try.underlying3
theorem zI (w : World) : (zeroValue 3).run Try.prog w = .ok (eI 0) w := by kernel_rfl
theorem zU (w : World) : (zeroValue 26).run Try.prog w = .ok (eU 0) w := by kernel_rfl
theorem info3' : (Try.prog.info? 3).map (fun i => (i.zero, i.size, i.bytes)) = some (some (.int .i64 0), 1, 8) := by kernel_rfl
/-- Who slots are: the struct's block, the map's, the row. -/
structure SoulIs (w0 w : World) (gs g3 : Nat) (v : Value) (now : List (Int × Int)) (row : List Int) : Prop where
  blk : w.heap[gs]? = some (.cells #[.map (some g3), v] 114 (0, 0))
  map : MapIs eI eI w g3 now
  row : (Kd.int .i64).R 3 w w0.heap.size (fun _ => True) v row
  b1 : w0.heap.size ≤ gs
  b2 : w0.heap.size ≤ g3
def SoulS (gs g3 : Nat) (j : Nat) (o : Obj) : Prop := j = gs ∨ j = g3 ∨ IsRow 3 o
section
variable {w0 w w1 : World} {gs g3 : Nat} {v : Value} {now : List (Int × Int)} {row : List Int} {S : Nat → Obj → Prop}
theorem SoulIs.ne (h : SoulIs w0 w gs g3 v now row) : gs ≠ g3 := by
  obtain ⟨es, c, hb, _⟩ := h.map
  rintro rfl
  rw [h.blk] at hb
  cases hb
theorem SoulIs.fr (h : SoulIs w0 w gs g3 v now row) (hf : Fr S w w1) (hs : ∀ j o, S j o → j ≠ gs ∧ j ≠ g3 ∧ ¬ IsRow 3 o) : SoulIs w0 w1 gs g3 v now row :=
  ⟨hf.blk h.blk (fun x => (hs _ _ x).1 rfl), h.map.fr hf (fun o x => (hs _ _ x).2.1 rfl), row_fr h.row hf (fun j o x => (hs j o x).2.2), h.b1, h.b2⟩
theorem SoulIs.rebase {wb : World} (h : SoulIs wb w gs g3 v now row) (hle : w0.heap.size ≤ wb.heap.size) : SoulIs w0 w gs g3 v now row :=
  ⟨h.blk, h.map, Kd.R_lower h.row hle, Nat.le_trans hle h.b1, Nat.le_trans hle h.b2⟩
theorem SoulIs.drew (h : SoulIs w0 w gs g3 v now row) : SoulIs w0 w.drew gs g3 v now row := h.fr (S := fun _ _ => False) (Fr.refl _ w).drew (fun _ _ x => x.elim)
theorem SoulIs.alloc (h : SoulIs w0 w gs g3 v now row) (o : Obj) : SoulIs w0 (w.alloc o) gs g3 v now row := h.fr (S := fun _ _ => False) ((Fr.refl _ w).alloc o) (fun _ _ x => x.elim)
theorem SoulIs.below (h : SoulIs w0 w gs g3 v now row) (hb : Below w.heap.size w w1) : SoulIs w0 w1 gs g3 v now row := h.fr (S := fun _ _ => False) ((Fr.refl _ w).below hb) (fun _ _ x => x.elim)
end
set_option maxHeartbeats 4000000 in
set_option maxRecDepth 100000 in
theorem soulNew_T (w : World) : Calls Try.prog 68 #[] w fun e w' => ∃ gs g3, e = .returned (.pointer (some ⟨gs, 0, none⟩)) ∧ SoulIs w w' gs g3 (.slice none 0 0) [] [] ∧ Below w.heap.size w w' := by
  have hu114 := Try.underlying114
  have hmm := @run_makeMap Try.prog
  go_enter Try.func68, Try.ntmps68
  go_wp2_with fail
  go_ret
  refine ⟨_, _, rfl, ⟨(by have := blk_new (w.alloc (.map #[] 0)) (.cells #[.map (some w.heap.size), .slice none 0 0] 114); simpa using this), (MapIs.new w).below (below_alloc (Below.refl _ _) _), Kd.R_nil _ _ _ _ _, by simp, by simp⟩, below_alloc (below_alloc (Below.refl _ _) _) _⟩
set_option maxHeartbeats 4000000 in
set_option maxRecDepth 100000 in
theorem soulNow_T (gs g3 : Nat) (v : Value) (now : List (Int × Int)) (row : List Int) (slot : Int) (w0 w : World) (hI : SoulIs w0 w gs g3 v now row) :
    Calls Try.prog 41 #[.pointer (some ⟨gs, 0, none⟩), .int .i64 slot] w fun e w' => e = .returned (.int .i64 ((get now slot).getD 0)) ∧ Below w.heap.size w w' := by
  have hu114 := Try.underlying114
  have hl := M.look keyI Try.underlying112 0 (zI w) hI.map slot
  have c0 : w.cell? ⟨gs, 0, none⟩ = some (.map (some g3)) := (blk_cell hI.blk 0).trans rfl
  clear hI
  go_enter Try.func41, Try.ntmps41
  go_wp2_with fail
  go_ret
  exact ⟨rfl, Below.refl _ _⟩
theorem soulNowNil_T (slot : Int) (w : World) : Calls Try.prog 41 #[.pointer none, .int .i64 slot] w fun e w' => e = .returned (.int .i64 0) ∧ Below w.heap.size w w' := by
  go_enter Try.func41, Try.ntmps41
  go_wp2_with fail
  go_ret
  exact ⟨rfl, Below.refl _ _⟩
theorem soulBornNil_T (slot : Int) (w : World) : Calls Try.prog 69 #[.pointer none, .int .i64 slot] w fun e w' => e = .returned (.int .i64 0) ∧ Below w.heap.size w w' := by
  go_enter Try.func69, Try.ntmps69
  go_wp2_with fail
  go_ret
  exact ⟨rfl, Below.refl _ _⟩
end Go.Proofs.Ytlpnggapndokeaa.PIdealKeeps

namespace Go.Proofs.Ytlpnggapndokeaa.PIdealKeeps
open Go Go.RowKit Go.Proofs.YtlpnggapndokeaaW.PrintWords Go.Proofs.YtlpnggapndokeaaW.PrintLast Go.Proofs.YtlpnggapndokeaaW.PrintMore Go.Proofs.Ytlpnggapndokeaa.M
attribute [local go_sem] max2_int min2_int max_two min_two max_three min_three max_four min_four
set_option linter.unusedVariables false
set_option linter.unusedSimpArgs false
def bornId (row : List Int) (slot : Int) : Int := if slot < 1 then 0 else ((row.length : Int) + 1)
def bornNow (now : List (Int × Int)) (row : List Int) (slot : Int) : List (Int × Int) := if slot < 1 then now else put now slot ((row.length : Int) + 1)
def bornRow (row : List Int) (slot : Int) : List Int := if slot < 1 then row else row ++ [slot]
theorem soul_put {w0 w1 : World} {gs g3 : Nat} {v v1 : Value} {now now' : List (Int × Int)} {row1 : List Int} {o : Obj} (hb : w1.heap[gs]? = some (.cells #[.map (some g3), v] 114 (0, 0))) (hR : (Kd.int .i64).R 3 w1 w0.heap.size (fun _ => True) v1 row1)
    (hm1 : MapIs eI eI (w1.setCell ⟨gs, 1, none⟩ v1) g3 now) (hm2 : MapIs eI eI (setB (w1.setCell ⟨gs, 1, none⟩ v1) g3 o) g3 now') (b1 : w0.heap.size ≤ gs) (b2 : w0.heap.size ≤ g3) (hne : gs ≠ g3) : SoulIs w0 (setB (w1.setCell ⟨gs, 1, none⟩ v1) g3 o) gs g3 v1 now' row1 := by
  refine ⟨(setB_far _ _ _ _ hne).trans (blk_put hb 1 _ rfl), hm2, ?_, b1, b2⟩
  obtain ⟨es, c, hmb, _⟩ := hm1
  refine row_fr (Kd.R_set hR hb (fun q hq => ?_) 1 v1) (Fr.setB1 hmb o) ?_
  · have : q = 3 := by simpa [Kd.int, Kd.scalar] using hq
    omega
  · rintro j o' ⟨_, rfl⟩ ⟨cells, hc⟩
    cases hc
theorem soul_map {w0 w w1 : World} {gs g3 : Nat} {v : Value} {now : List (Int × Int)} {row : List Int} (hI : SoulIs w0 w gs g3 v now row) (hg : w.grownBy w1 v.ownBlock) (hb : w1.heap[gs]? = some (.cells #[.map (some g3), v] 114 (0, 0))) (v1 : Value) : MapIs eI eI (w1.setCell ⟨gs, 1, none⟩ v1) g3 now := by
  have hne := hI.ne
  obtain ⟨es, c, hm, he⟩ := hI.map
  refine ⟨es, c, (Below.heap_setCell _ _ _ _ hne.symm).trans ((hg.block g3 (blk_lt hm) ?_).trans hm), he⟩
  intro e
  obtain ⟨cells, hc⟩ := row_ok hI.row g3 e.symm _ hm
  cases hc
/-- What a birth may turn: the struct, the map, the row as it was. -/
def SoulU (gs g3 : Nat) (v : Value) (j : Nat) (_ : Obj) : Prop := j = gs ∨ j = g3 ∨ some j = v.ownBlock
set_option maxHeartbeats 4000000 in
set_option maxRecDepth 100000 in
theorem soulBorn_U (gs g3 : Nat) (v : Value) (now : List (Int × Int)) (row : List Int) (slot : Int) (w0 w : World) (hI : SoulIs w0 w gs g3 v now row) (hB : Below w0.heap.size w0 w) (hl : row.length ≤ 100000) :
    Calls Try.prog 69 #[.pointer (some ⟨gs, 0, none⟩), .int .i64 slot] w fun e w' => e = .returned (.int .i64 (bornId row slot)) ∧ (∃ v', SoulIs w0 w' gs g3 v' (bornNow now row slot) (bornRow row slot) ∧ (v'.ownBlock = v.ownBlock ∨ ∃ b, v'.ownBlock = some b ∧ w.heap.size ≤ b)) ∧ Below w0.heap.size w0 w' ∧ Fr (SoulU gs g3 v) w w' := by
  have hu114 := Try.underlying114
  by_cases hs : slot < 1
  · have t1 : decide (slot < 1) = true := decide_eq_true hs
    have HI := Aside0.mk hI
    have HB := Aside0.mk hB
    have E1 := Aside0.mk (show bornId row slot = 0 from if_pos hs)
    have E2 := Aside0.mk (show bornNow now row slot = now from if_pos hs)
    have E3 := Aside0.mk (show bornRow row slot = row from if_pos hs)
    clear hI hB hl hs
    go_enter Try.func69, Try.ntmps69
    go_wp2_with fail
    go_ret
    rw [E1.out, E2.out, E3.out]
    exact ⟨rfl, ⟨_, HI.out, .inl rfl⟩, HB.out, Fr.refl _ _⟩
  · have t1 : decide (slot < 1) = false := decide_eq_false hs
    have c0 : w.cell? ⟨gs, 0, none⟩ = some (.map (some g3)) := (blk_cell hI.blk 0).trans rfl
    have c1 : w.cell? ⟨gs, 1, none⟩ = some v := (blk_cell hI.blk 1).trans rfl
    have HI := Aside0.mk hI
    have HB := Aside0.mk hB
    have HL := Aside0.mk hl
    have E1 := Aside0.mk (show bornId row slot = ((row.length : Int) + 1) from if_neg hs)
    have E2 := Aside0.mk (show bornNow now row slot = put now slot ((row.length : Int) + 1) from if_neg hs)
    have E3 := Aside0.mk (show bornRow row slot = row ++ [slot] from if_neg hs)
    clear hI hB hl hs
    go_enter Try.func69, Try.ntmps69
    go_wp2_with (first | ((with_reducible refine gate_builtin (b := .append) (xs := #[.tmp 16, .tmp 18]) rfl ?_); at_builtin; refine Kd.R_append (Kd.int .i64) w0.heap.size rfl (.tmp 16) (.tmp 18) 56 3 (.int .i64 0) 8 rfl Try.underlying56 info3' rfl (by decide) (by omega) v row slot [.int .i64 slot] (fun _ => True) (fun _ => False) rfl rfl ?aP (fun _ hk => hk.elim) (fun _ _ => trivial) HI.out.row HB.out ?aS ?aL ?_; (case aP => rfl); (case aS => exact HB.out.size); (case aL => have := HL.out; omega); intro v1 w1 ho hb hg hat; obtain ⟨A1, k1, e1, hk1, hC1⟩ := Kd.R_reads ho; rw [show (row ++ [slot]).length = row.length + 1 by simp] at e1; subst e1; have HO := Aside0.mk ho; have HB1 := Aside0.mk hb; have HG := Aside0.mk hg; have HAT := Aside0.mk hat; have HBK := Aside0.mk (blk_grown HI.out.blk hg (Kd.R_ne HI.out.row HI.out.blk (by decide))); have hf1 := blk_frozen HBK.out 1; have hc1 : w1.cell? ⟨gs, 1, none⟩ = some v := (blk_cell HBK.out 1).trans rfl; have hc0 : w1.cell? ⟨gs, 0, none⟩ = some (.map (some g3)) := (blk_cell HBK.out 0).trans rfl; clear ho hb hg hat hk1 hC1; have HM := Aside0.mk (show MapIs eI eI (w1.setCell ⟨gs, 1, none⟩ (.slice A1 (row.length + 1) k1)) g3 now from soul_map HI.out HG.out HBK.out _); obtain ⟨w2, hu, hm2, oo, ho2⟩ := M.upd (P := Try.prog) keyI Try.underlying112 HM.out slot ((row.length : Int) + 1); have HM2 := Aside0.mk hm2; have HO2 := Aside0.mk ho2; clear hm2 ho2))
    go_ret
    rw [E1.out, E2.out, E3.out]
    have e2 := HO2.out
    subst e2
    have hS := soul_put HBK.out HO.out HM.out HM2.out HI.out.b1 HI.out.b2 HI.out.ne
    refine ⟨rfl, ⟨_, hS, HAT.out⟩, setB_below (HB1.out.setCell (p := ⟨gs, 1, none⟩) HI.out.b1 _) HI.out.b2 _, ?_⟩
    exact (((Fr.refl (SoulU gs g3 v) w).grown HG.out (fun k hk o ho' => .inr (.inr hk.symm))).set (p := ⟨gs, 1, none⟩) (fun _ => .inl rfl) _).setBk (fun _ => .inr (.inl rfl)) _
theorem soulBorn_T (gs g3 : Nat) (v : Value) (now : List (Int × Int)) (row : List Int) (slot : Int) (w0 w : World) (hI : SoulIs w0 w gs g3 v now row) (hB : Below w0.heap.size w0 w) (hl : row.length ≤ 100000) :
    Calls Try.prog 69 #[.pointer (some ⟨gs, 0, none⟩), .int .i64 slot] w fun e w' => e = .returned (.int .i64 (bornId row slot)) ∧ (∃ v', SoulIs w0 w' gs g3 v' (bornNow now row slot) (bornRow row slot)) ∧ Below w0.heap.size w0 w' ∧ Fr (SoulS gs g3) w w' :=
  (soulBorn_U gs g3 v now row slot w0 w hI hB hl).mono fun e w' h => ⟨h.1, h.2.1.imp (fun _ x => x.1), h.2.2.1, h.2.2.2.1, fun j o hj hs => h.2.2.2.2 j o hj (fun x => by
    rcases x with x | x | x
    · exact hs (.inl x)
    · exact hs (.inr (.inl x))
    · exact hs (.inr (.inr (row_ok hI.row j x.symm o hj))))⟩
end Go.Proofs.Ytlpnggapndokeaa.PIdealKeeps

namespace Go.Proofs.Ytlpnggapndokeaa.PIdealKeeps
open Go Go.RowKit Go.Proofs.YtlpnggapndokeaaW.PrintWords Go.Proofs.YtlpnggapndokeaaW.PrintLast Go.Proofs.YtlpnggapndokeaaW.PrintMore Go.Proofs.Ytlpnggapndokeaa.M
attribute [local go_sem] max2_int min2_int max_two min_two max_three min_three max_four min_four
set_option linter.unusedVariables false
set_option linter.unusedSimpArgs false
/-- A key: kind, slot, part, who. -/
abbrev K4 : Type := Int × Int × Int × Int
def eK (k : K4) : Value := .agg #[.int .i64 k.1, .int .i64 k.2.1, .int .i64 k.2.2.1, .int .i64 k.2.2.2]
theorem eq23 (d : Nat) (w : World) (a b c a' b' c' : Int) : (Op.equalIn (d + 2) 23 (.agg #[.int .i64 a, .int .i64 b, .int .i64 c]) (.agg #[.int .i64 a', .int .i64 b', .int .i64 c'])).run Try.prog w = .ok (a == a' && (b == b' && c == c')) w :=
  eqA_of Try.underlying23 (by kernel_rfl) (eqf_cons (f := _) (by rfl) (a := .int .i64 a) (b := .int .i64 a') (by kernel_rfl) (by kernel_rfl) (run_equalIn_int w d 3 .i64 .i64 a a' Try.underlying3)
    (eqf_cons (by rfl) (a := .int .i64 b) (b := .int .i64 b') (by kernel_rfl) (by kernel_rfl) (run_equalIn_int w d 3 .i64 .i64 b b' Try.underlying3)
      (eqf_last (by rfl) (a := .int .i64 c) (b := .int .i64 c') (by kernel_rfl) (by kernel_rfl) (run_equalIn_int w d 3 .i64 .i64 c c' Try.underlying3))))
theorem eq106 (d : Nat) (w : World) (a b c i a' b' c' i' : Int) : (Op.equalIn (d + 3) 106 (.agg #[.int .i64 a, .int .i64 b, .int .i64 c, .int .i64 i]) (.agg #[.int .i64 a', .int .i64 b', .int .i64 c', .int .i64 i'])).run Try.prog w = .ok ((a == a' && (b == b' && c == c')) && i == i') w :=
  eqA_of Try.underlying106 (by kernel_rfl) (eqf_cons (by rfl) (a := .agg #[.int .i64 a, .int .i64 b, .int .i64 c]) (b := .agg #[.int .i64 a', .int .i64 b', .int .i64 c']) (by kernel_rfl) (by kernel_rfl) (eq23 d w a b c a' b' c')
    (eqf_last (by rfl) (a := .int .i64 i) (b := .int .i64 i') (by kernel_rfl) (by kernel_rfl) (run_equalIn_int w (d + 1) 3 .i64 .i64 i i' Try.underlying3)))
theorem keyK : KeyOf Try.prog 106 eK := by
  refine M.keyOf_struct Try.underlying106 (fun b w k => ?_) (fun w k k' => ?_) (fun k => ⟨_, rfl⟩) (fun k => ?_) (fun k k' e => ?_)
  · cases b <;> kernel_rfl
  · obtain ⟨a, b, c, i⟩ := k
    obtain ⟨a', b', c', i'⟩ := k'
    refine (eq106 9997 w a b c i a' b' c' i').trans ?_
    congr 1
    simp only [Prod.mk.injEq]
    by_cases h1 : a = a' <;> by_cases h2 : b = b' <;> by_cases h3 : c = c' <;> by_cases h4 : i = i' <;> simp [h1, h2, h3, h4]
  · simp [eK, Instr.sameBits]
  · obtain ⟨a, b, c, i⟩ := k
    obtain ⟨a', b', c', i'⟩ := k'
    simpa [eK] using e
end Go.Proofs.Ytlpnggapndokeaa.PIdealKeeps

namespace Go.Proofs.Ytlpnggapndokeaa.PIdealKeeps
open Go Go.RowKit Go.Proofs.YtlpnggapndokeaaW.PrintWords Go.Proofs.YtlpnggapndokeaaW.PrintLast Go.Proofs.YtlpnggapndokeaaW.PrintMore Go.Proofs.Ytlpnggapndokeaa.M
attribute [local go_sem] max2_int min2_int max_two min_two max_three min_three max_four min_four
set_option linter.unusedVariables false
set_option linter.unusedSimpArgs false
structure ISt where
  words : List (K4 × Int)
  leads : List (K4 × Int)
  now : List (Int × Int)
  row : List Int
  c1 : Int
  c2 : Int
  c3 : Int
  c4 : Int
  c5 : Int
structure IdealIs (w0 w : World) (gi g1 g2 gs g3 : Nat) (A : ISt) : Prop where
  blk : w.heap[gi]? = some (.cells #[.map (some g1), .map (some g2), .pointer (some ⟨gs, 0, none⟩), .int .i64 A.c1, .int .i64 A.c2, .int .i64 A.c3, .int .i64 A.c4, .int .i64 A.c5] 103 (0, 0))
  words : MapIs eK eU w g1 A.words
  leads : MapIs eK eI w g2 A.leads
  soul : ∃ v, SoulIs w0 w gs g3 v A.now A.row
  b0 : w0.heap.size ≤ gi
  b1 : w0.heap.size ≤ g1
  b2 : w0.heap.size ≤ g2
  n12 : g1 ≠ g2
  n13 : g1 ≠ g3
  n23 : g2 ≠ g3
def IdealS (gi g1 g2 gs g3 : Nat) (j : Nat) (o : Obj) : Prop := j = gi ∨ j = g1 ∨ j = g2 ∨ SoulS gs g3 j o
section
variable {w0 w w1 : World} {gi g1 g2 gs g3 : Nat} {A : ISt} {S : Nat → Obj → Prop}
theorem mapIs_ne {K V : Type} {ek : K → Value} {ev : V → Value} {g gi : Nat} {m : List (K × V)} {cs : Array Value} {t : TypeId} (h : MapIs ek ev w g m) (hb : w.heap[gi]? = some (.cells cs t (0, 0))) : gi ≠ g := by
  obtain ⟨es, c, hm, _⟩ := h
  rintro rfl
  rw [hb] at hm
  cases hm
theorem IdealIs.fr (h : IdealIs w0 w gi g1 g2 gs g3 A) (hf : Fr S w w1) (hs : ∀ j o, S j o → ¬ IdealS gi g1 g2 gs g3 j o) : IdealIs w0 w1 gi g1 g2 gs g3 A := by
  obtain ⟨v, hv⟩ := h.soul
  exact ⟨hf.blk h.blk (fun x => hs _ _ x (.inl rfl)), h.words.fr hf (fun o x => hs _ _ x (.inr (.inl rfl))), h.leads.fr hf (fun o x => hs _ _ x (.inr (.inr (.inl rfl)))),
    ⟨v, hv.fr hf (fun j o x => ⟨fun e => hs _ _ x (.inr (.inr (.inr (.inl e)))), fun e => hs _ _ x (.inr (.inr (.inr (.inr (.inl e))))), fun e => hs _ _ x (.inr (.inr (.inr (.inr (.inr e)))))⟩)⟩, h.b0, h.b1, h.b2, h.n12, h.n13, h.n23⟩
theorem IdealIs.drew (h : IdealIs w0 w gi g1 g2 gs g3 A) : IdealIs w0 w.drew gi g1 g2 gs g3 A := h.fr (S := fun _ _ => False) (Fr.refl _ w).drew (fun _ _ x => x.elim)
theorem IdealIs.alloc (h : IdealIs w0 w gi g1 g2 gs g3 A) (o : Obj) : IdealIs w0 (w.alloc o) gi g1 g2 gs g3 A := h.fr (S := fun _ _ => False) ((Fr.refl _ w).alloc o) (fun _ _ x => x.elim)
theorem IdealIs.below (h : IdealIs w0 w gi g1 g2 gs g3 A) (hb : Below w.heap.size w w1) : IdealIs w0 w1 gi g1 g2 gs g3 A := h.fr (S := fun _ _ => False) ((Fr.refl _ w).below hb) (fun _ _ x => x.elim)
/-- One of the counts turns. -/
theorem IdealIs.count (h : IdealIs w0 w gi g1 g2 gs g3 A) (i : Nat) (u : Value) (A' : ISt) (h1 : A'.words = A.words) (h2 : A'.leads = A.leads) (h3 : A'.now = A.now) (h4 : A'.row = A.row)
    (he : (#[.map (some g1), .map (some g2), .pointer (some ⟨gs, 0, none⟩), .int .i64 A.c1, .int .i64 A.c2, .int .i64 A.c3, .int .i64 A.c4, .int .i64 A.c5] : Array Value).setIfInBounds i u = #[.map (some g1), .map (some g2), .pointer (some ⟨gs, 0, none⟩), .int .i64 A'.c1, .int .i64 A'.c2, .int .i64 A'.c3, .int .i64 A'.c4, .int .i64 A'.c5]) :
    IdealIs w0 (w.setCell ⟨gi, i, none⟩ u) gi g1 g2 gs g3 A' := by
  obtain ⟨v, hv⟩ := h.soul
  have hf := Fr.set1 h.blk i u
  refine ⟨blk_put h.blk i u he, ?_, ?_, ⟨v, ?_⟩, h.b0, h.b1, h.b2, h.n12, h.n13, h.n23⟩
  · rw [h1]; exact h.words.fr hf (fun o x => (mapIs_ne h.words h.blk).symm x.1)
  · rw [h2]; exact h.leads.fr hf (fun o x => (mapIs_ne h.leads h.blk).symm x.1)
  · rw [h3, h4]
    refine hv.fr hf ?_
    rintro j o ⟨rfl, rfl⟩
    refine ⟨fun e => ?_, mapIs_ne hv.map h.blk, ?_⟩
    · subst e
      have := hv.blk.symm.trans h.blk
      cases this
    · rintro ⟨cells, hc⟩
      injection hc with _ hc
      exact absurd hc (by decide)
theorem IdealIs.word (h : IdealIs w0 w gi g1 g2 gs g3 A) {o : Obj} {m : List (K4 × Int)} (hm : MapIs eK eU (setB w g1 o) g1 m) : IdealIs w0 (setB w g1 o) gi g1 g2 gs g3 { A with words := m } := by
  obtain ⟨v, hv⟩ := h.soul
  obtain ⟨es, c, hb, _⟩ := h.words
  have hf := Fr.setB1 hb o
  refine ⟨hf.blk h.blk (fun x => mapIs_ne h.words h.blk x.1), hm, h.leads.fr hf (fun o x => h.n12 x.1.symm), ⟨v, hv.fr hf ?_⟩, h.b0, h.b1, h.b2, h.n12, h.n13, h.n23⟩
  rintro j o ⟨rfl, rfl⟩
  refine ⟨fun e => ?_, h.n13, ?_⟩
  · subst e
    have := hv.blk.symm.trans hb
    cases this
  · rintro ⟨cells, hc⟩
    cases hc
theorem IdealIs.lead (h : IdealIs w0 w gi g1 g2 gs g3 A) {o : Obj} {m : List (K4 × Int)} (hm : MapIs eK eI (setB w g2 o) g2 m) : IdealIs w0 (setB w g2 o) gi g1 g2 gs g3 { A with leads := m } := by
  obtain ⟨v, hv⟩ := h.soul
  obtain ⟨es, c, hb, _⟩ := h.leads
  have hf := Fr.setB1 hb o
  refine ⟨hf.blk h.blk (fun x => mapIs_ne h.leads h.blk x.1), h.words.fr hf (fun o x => h.n12 x.1), hm, ⟨v, hv.fr hf ?_⟩, h.b0, h.b1, h.b2, h.n12, h.n13, h.n23⟩
  rintro j o ⟨rfl, rfl⟩
  refine ⟨fun e => ?_, h.n23, ?_⟩
  · subst e
    have := hv.blk.symm.trans hb
    cases this
  · rintro ⟨cells, hc⟩
    cases hc
end
/-- What an access leaves, and answers. -/
def IPost (w0 w : World) (gi g1 g2 gs g3 : Nat) (A : ISt) (r : Value) (e : Ending) (w' : World) : Prop := e = .returned r ∧ IdealIs w0 w' gi g1 g2 gs g3 A ∧ Below w0.heap.size w0 w' ∧ Fr (IdealS gi g1 g2 gs g3) w w'
/-- The same, but for the slots' rows. -/
def IdealT (gi g1 g2 : Nat) (j : Nat) (_ : Obj) : Prop := j = gi ∨ j = g1 ∨ j = g2 ∨ False
def IPostT (w0 w : World) (gi g1 g2 gs g3 : Nat) (A : ISt) (r : Value) (e : Ending) (w' : World) : Prop := e = .returned r ∧ IdealIs w0 w' gi g1 g2 gs g3 A ∧ Below w0.heap.size w0 w' ∧ Fr (IdealT gi g1 g2) w w'
theorem IPostT.post {w0 w : World} {gi g1 g2 gs g3 : Nat} {A : ISt} {r : Value} {e : Ending} {w' : World} (h : IPostT w0 w gi g1 g2 gs g3 A r e w') : IPost w0 w gi g1 g2 gs g3 A r e w' :=
  ⟨h.1, h.2.1, h.2.2.1, h.2.2.2.mono (fun j o x => by
    rcases x with x | x | x | x
    · exact .inl x
    · exact .inr (.inl x)
    · exact .inr (.inr (.inl x))
    · exact x.elim)⟩
def putA (A : ISt) (k : K4) (x y : Int) : ISt := { A with words := put A.words k x, leads := put A.leads k y }
def ofK (kd sl pt id : Int) : K4 := if kd = 5 ∧ pt ≥ 0 ∧ pt ≠ 1 ∧ pt ≠ 2 then (5, 0, pt, id) else (kd, sl, pt, 0)
end Go.Proofs.Ytlpnggapndokeaa.PIdealKeeps
namespace Go.Proofs.Ytlpnggapndokeaa.PIdealKeeps
open Go Go.RowKit Go.Proofs.YtlpnggapndokeaaW.PrintWords Go.Proofs.YtlpnggapndokeaaW.PrintLast Go.Proofs.YtlpnggapndokeaaW.PrintMore Go.Proofs.Ytlpnggapndokeaa.M
theorem blk_new2 (w : World) (o1 o2 : Obj) : ((w.alloc o1).alloc o2).heap[w.heap.size + 1]? = some o2 := by have := blk_new (w.alloc o1) o2; simpa using this
theorem blk_new3 (w : World) (o1 o2 o3 : Obj) : (((w.alloc o1).alloc o2).alloc o3).heap[w.heap.size + 1 + 1]? = some o3 := by have := blk_new ((w.alloc o1).alloc o2) o3; simpa using this
end Go.Proofs.Ytlpnggapndokeaa.PIdealKeeps
namespace Go.Proofs.Ytlpnggapndokeaa.M
open Go Go.RowKit Go.Proofs.YtlpnggapndokeaaW.PrintWords
theorem Fr.setNew {S : Nat → Obj → Prop} {a b : World} (h : Fr S a b) {p : Addr} (hp : a.heap.size ≤ p.block) (u : Value) : Fr S a (b.setCell p u) :=
  ⟨by have := h.1; simpa [World.setCell] using this, fun j o hj hs => (Below.heap_setCell b p u j (by have := blk_lt hj; omega)).trans (h.2 j o hj hs)⟩
end Go.Proofs.Ytlpnggapndokeaa.M
namespace Go.Proofs.Ytlpnggapndokeaa.PIdealKeeps
open Go Go.RowKit Go.Proofs.YtlpnggapndokeaaW.PrintWords Go.Proofs.YtlpnggapndokeaaW.PrintLast Go.Proofs.YtlpnggapndokeaaW.PrintMore Go.Proofs.Ytlpnggapndokeaa.M
/-- A block of another type is written. -/
theorem IdealIs.far {w0 w : World} {gi g1 g2 gs g3 : Nat} {A : ISt} (h : IdealIs w0 w gi g1 g2 gs g3 A) {p : Nat} {cs : Array Value} {t : TypeId} (hb : w.heap[p]? = some (.cells cs t (0, 0))) (h1 : t ≠ 103) (h2 : t ≠ 114) (h3 : t ≠ 3) (i : Nat) (u : Value) : IdealIs w0 (w.setCell ⟨p, i, none⟩ u) gi g1 g2 gs g3 A := by
  refine h.fr (Fr.set1 hb i u) ?_
  rintro j o ⟨rfl, rfl⟩ hS
  obtain ⟨v, hv⟩ := h.soul
  rcases hS with e | e | e | e | e | ⟨cells, e⟩
  · subst e
    exact blk_ne hb h.blk h1 rfl
  · exact mapIs_ne h.words hb e
  · exact mapIs_ne h.leads hb e
  · subst e
    exact blk_ne hb hv.blk h2 rfl
  · exact mapIs_ne hv.map hb e
  · injection e with _ e
    exact h3 e
end Go.Proofs.Ytlpnggapndokeaa.PIdealKeeps

namespace Go.Proofs.Ytlpnggapndokeaa.PIdealKeeps
open Go Go.RowKit Go.Proofs.YtlpnggapndokeaaW.PrintWords Go.Proofs.YtlpnggapndokeaaW.PrintLast Go.Proofs.YtlpnggapndokeaaW.PrintMore Go.Proofs.Ytlpnggapndokeaa.M
attribute [local go_sem] max2_int min2_int max_two min_two max_three min_three max_four min_four
set_option linter.unusedVariables false
set_option linter.unusedSimpArgs false
set_option maxHeartbeats 4000000 in
set_option maxRecDepth 100000 in
theorem iput_U (gi g1 g2 gs g3 : Nat) (A : ISt) (ka kb kc kd x y : Int) (st : Bool) (w0 w : World) (hI : IdealIs w0 w gi g1 g2 gs g3 A) (hB : Below w0.heap.size w0 w) :
    Calls Try.prog 79 #[.pointer (some ⟨gi, 0, none⟩), .agg #[.int .i64 ka, .int .i64 kb, .int .i64 kc, .int .i64 kd], .agg #[.int .u64 x, .int .i64 y, .bool st]] w (IPostT w0 w gi g1 g2 gs g3 (putA A (ka, kb, kc, kd) x y) (.tuple #[])) := by
  have hu103 := Try.underlying103
  have hu106 := Try.underlying106
  have hu28 := Try.underlying28
  have HI := Aside0.mk hI
  have HB := Aside0.mk hB
  clear hI hB
  go_enter Try.func79, Try.ntmps79
  go_wp2_with fail
  have KB := Aside0.mk (blk_drew (blk_alloc (blk_new w (.cells #[.int .i64 ka, .int .i64 kb, .int .i64 kc, .int .i64 kd] 106)) (.cells #[.int .u64 x, .int .i64 y, .bool st] 28)))
  have VB := Aside0.mk (blk_drew (blk_new2 w (.cells #[.int .i64 ka, .int .i64 kb, .int .i64 kc, .int .i64 kd] 106) (.cells #[.int .u64 x, .int .i64 y, .bool st] 28)))
  have JI := Aside0.mk (((HI.out.alloc (.cells #[.int .i64 ka, .int .i64 kb, .int .i64 kc, .int .i64 kd] 106)).alloc (.cells #[.int .u64 x, .int .i64 y, .bool st] 28)).drew)
  have JB := Aside0.mk (below_drew (below_alloc (below_alloc HB.out (.cells #[.int .i64 ka, .int .i64 kb, .int .i64 kc, .int .i64 kd] 106)) (.cells #[.int .u64 x, .int .i64 y, .bool st] 28)))
  have JF := Aside0.mk (((Fr.refl (IdealT gi g1 g2) w).alloc (.cells #[.int .i64 ka, .int .i64 kb, .int .i64 kc, .int .i64 kd] 106)).alloc (.cells #[.int .u64 x, .int .i64 y, .bool st] 28)).drew
  obtain ⟨w2, hu, hm2, o2, e2⟩ := M.upd (P := Try.prog) keyK Try.underlying100 JI.out.words (ka, kb, kc, kd) x
  have HM2 := Aside0.mk hm2
  have HE2 := Aside0.mk e2
  clear hm2 e2
  replace hu : (Instr.mapUpdate 100 (.map (some g1)) (.agg #[.int .i64 ka, .int .i64 kb, .int .i64 kc, .int .i64 kd]) (.int .u64 x)).run Try.prog _ = .ok () w2 := hu
  refine start_ (n := 8) (S := fun w' => w'.cell? ⟨gi, 0, none⟩ = some (.map (some g1)) ∧ w'.cell? ⟨w.heap.size, 0, none⟩ = some (.int .i64 ka) ∧ w'.cell? ⟨w.heap.size, 1, none⟩ = some (.int .i64 kb) ∧ w'.cell? ⟨w.heap.size, 2, none⟩ = some (.int .i64 kc) ∧ w'.cell? ⟨w.heap.size, 3, none⟩ = some (.int .i64 kd) ∧ w'.cell? ⟨w.heap.size + 1, 0, none⟩ = some (.int .u64 x)) (ds := [7]) #[false, false, false, false, false, false, false, false] (by kernel_rfl) rfl rfl ⟨(blk_cell JI.out.blk 0).trans rfl, (blk_cell KB.out 0).trans rfl, (blk_cell KB.out 1).trans rfl, (blk_cell KB.out 2).trans rfl, (blk_cell KB.out 3).trans rfl, (blk_cell VB.out 0).trans rfl⟩ (fun hHeld => ?_)
  refine pure_ (i := 0) (N := some 6) (v := ?_) (a' := ?_) #[true, false, false, false, false, false, false, false] rfl rfl (by kernel_rfl) (fun _ _ _ h => h) (Or.inl ⟨by rfl, ?_⟩) ?_ ?_
  rotate_left
  · intro w'
    go_simp
    with_reducible rfl
  rotate_left
  · simp only [Act.put, List.setIfInBounds_toArray, List.set_cons_zero, List.set_cons_succ, i64_w, i32_w]
    rfl
  refine pure_ (i := 1) (N := some 7) (v := ?_) (a' := ?_) #[true, true, false, false, false, false, false, false] rfl rfl (by kernel_rfl) (fun _ _ _ h => h) (Or.inl ⟨by rfl, ?_⟩) ?_ ?_
  rotate_left
  · intro w'
    go_simp
    with_reducible rfl
  rotate_left
  · simp only [Act.put, List.setIfInBounds_toArray, List.set_cons_zero, List.set_cons_succ, i64_w, i32_w]
    rfl
  refine pure_ (i := 2) (N := some 8) (v := ?_) (a' := ?_) #[true, true, true, false, false, false, false, false] rfl rfl (by kernel_rfl) (fun _ _ _ h => h) (Or.inl ⟨by rfl, ?_⟩) ?_ ?_
  rotate_left
  · intro w'
    go_simp
    with_reducible rfl
  rotate_left
  · simp only [Act.put, List.setIfInBounds_toArray, List.set_cons_zero, List.set_cons_succ, i64_w, i32_w]
    rfl
  refine pure_ (i := 5) (N := some 11) (v := ?_) (a' := ?_) #[true, true, true, false, false, true, false, false] rfl rfl (by kernel_rfl) (fun _ _ _ h => h) (Or.inl ⟨by rfl, ?_⟩) ?_ ?_
  rotate_left
  · intro w'
    go_simp
    with_reducible rfl
  rotate_left
  · simp only [Act.put, List.setIfInBounds_toArray, List.set_cons_zero, List.set_cons_succ, i64_w, i32_w]
    rfl
  refine take_ (i := 3) (N := some 9) (v := ?_) (a' := ?_) #[true, true, true, true, false, true, false, false] rfl rfl (by kernel_rfl) (fun _ _ _ h => h) (Or.inl ⟨by rfl, ?_⟩) hHeld ?_ ?_
  rotate_left
  · rintro w' ⟨s0, s1, s2, s3, s4, s5⟩
    go_simp
    with_reducible rfl
  rotate_left
  · simp only [Act.put, List.setIfInBounds_toArray, List.set_cons_zero, List.set_cons_succ, i64_w, i32_w]
    rfl
  refine take_ (i := 4) (N := some 10) (v := ?_) (a' := ?_) #[true, true, true, true, true, true, false, false] rfl rfl (by kernel_rfl) (fun _ _ _ h => h) (Or.inl ⟨by rfl, ?_⟩) hHeld ?_ ?_
  rotate_left
  · rintro w' ⟨s0, s1, s2, s3, s4, s5⟩
    go_simp
    with_reducible rfl
  rotate_left
  · simp only [Act.put, List.setIfInBounds_toArray, List.set_cons_zero, List.set_cons_succ, i64_w, i32_w]
    rfl
  refine take_ (i := 6) (N := some 12) (v := ?_) (a' := ?_) #[true, true, true, true, true, true, true, false] rfl rfl (by kernel_rfl) (fun _ _ _ h => h) (Or.inl ⟨by rfl, ?_⟩) hHeld ?_ ?_
  rotate_left
  · rintro w' ⟨s0, s1, s2, s3, s4, s5⟩
    go_simp
    with_reducible rfl
  rotate_left
  · simp only [Act.put, List.setIfInBounds_toArray, List.set_cons_zero, List.set_cons_succ, i64_w, i32_w]
    rfl
  refine last_ (i := 7) (N := none) #[true, true, true, true, true, true, true, true] rfl rfl (by kernel_rfl) (by decide) (fun K hK => ?_)
  refine skip_ (w1 := ?_) (by rfl) rfl ?_ ?_
  rotate_left
  · go_simp
    rfl
  refine hK.out _ _ ?_
  clear hK K
  refine done_ (by kernel_rfl) ?_
  have e2 := HE2.out
  subst e2
  have N1 := mapIs_ne JI.out.words KB.out
  have N2 := mapIs_ne JI.out.words VB.out
  have LB := Aside0.mk ((setB_far _ g1 o2 _ N1).trans KB.out)
  have WB := Aside0.mk ((setB_far _ g1 o2 _ N2).trans VB.out)
  have LI := Aside0.mk (JI.out.word HM2.out)
  have LBe := Aside0.mk (setB_below JB.out JI.out.b1 o2)
  have LF := Aside0.mk (JF.out.setBk (fun _ => .inr (.inl rfl)) o2)
  clear N1 N2 KB VB JI JB JF HM2 HE2 hu
  generalize setB _ g1 o2 = w2 at *
  go_wp2_with fail
  have KB := Aside0.mk (blk_drew LB.out)
  have VB := Aside0.mk (blk_drew WB.out)
  have JI := Aside0.mk LI.out.drew
  have JB := Aside0.mk (below_drew LBe.out)
  have JF := Aside0.mk LF.out.drew
  obtain ⟨w3, hu, hm2, o3, e2⟩ := M.upd (P := Try.prog) keyK Try.underlying101 JI.out.leads (ka, kb, kc, kd) y
  have HM2 := Aside0.mk hm2
  have HE2 := Aside0.mk e2
  clear hm2 e2
  replace hu : (Instr.mapUpdate 101 (.map (some g2)) (.agg #[.int .i64 ka, .int .i64 kb, .int .i64 kc, .int .i64 kd]) (.int .i64 y)).run Try.prog _ = .ok () w3 := hu
  refine start_ (n := 8) (S := fun w' => w'.cell? ⟨gi, 1, none⟩ = some (.map (some g2)) ∧ w'.cell? ⟨w.heap.size, 0, none⟩ = some (.int .i64 ka) ∧ w'.cell? ⟨w.heap.size, 1, none⟩ = some (.int .i64 kb) ∧ w'.cell? ⟨w.heap.size, 2, none⟩ = some (.int .i64 kc) ∧ w'.cell? ⟨w.heap.size, 3, none⟩ = some (.int .i64 kd) ∧ w'.cell? ⟨w.heap.size + 1, 1, none⟩ = some (.int .i64 y)) (ds := [7]) #[false, false, false, false, false, false, false, false] (by kernel_rfl) rfl rfl ⟨(blk_cell JI.out.blk 1).trans rfl, (blk_cell KB.out 0).trans rfl, (blk_cell KB.out 1).trans rfl, (blk_cell KB.out 2).trans rfl, (blk_cell KB.out 3).trans rfl, (blk_cell VB.out 1).trans rfl⟩ (fun hHeld => ?_)
  refine pure_ (i := 0) (N := some 13) (v := ?_) (a' := ?_) #[true, false, false, false, false, false, false, false] rfl rfl (by kernel_rfl) (fun _ _ _ h => h) (Or.inl ⟨by rfl, ?_⟩) ?_ ?_
  rotate_left
  · intro w'
    go_simp
    with_reducible rfl
  rotate_left
  · simp only [Act.put, List.setIfInBounds_toArray, List.set_cons_zero, List.set_cons_succ, i64_w, i32_w]
    rfl
  refine pure_ (i := 1) (N := some 14) (v := ?_) (a' := ?_) #[true, true, false, false, false, false, false, false] rfl rfl (by kernel_rfl) (fun _ _ _ h => h) (Or.inl ⟨by rfl, ?_⟩) ?_ ?_
  rotate_left
  · intro w'
    go_simp
    with_reducible rfl
  rotate_left
  · simp only [Act.put, List.setIfInBounds_toArray, List.set_cons_zero, List.set_cons_succ, i64_w, i32_w]
    rfl
  refine pure_ (i := 2) (N := some 15) (v := ?_) (a' := ?_) #[true, true, true, false, false, false, false, false] rfl rfl (by kernel_rfl) (fun _ _ _ h => h) (Or.inl ⟨by rfl, ?_⟩) ?_ ?_
  rotate_left
  · intro w'
    go_simp
    with_reducible rfl
  rotate_left
  · simp only [Act.put, List.setIfInBounds_toArray, List.set_cons_zero, List.set_cons_succ, i64_w, i32_w]
    rfl
  refine pure_ (i := 5) (N := some 18) (v := ?_) (a' := ?_) #[true, true, true, false, false, true, false, false] rfl rfl (by kernel_rfl) (fun _ _ _ h => h) (Or.inl ⟨by rfl, ?_⟩) ?_ ?_
  rotate_left
  · intro w'
    go_simp
    with_reducible rfl
  rotate_left
  · simp only [Act.put, List.setIfInBounds_toArray, List.set_cons_zero, List.set_cons_succ, i64_w, i32_w]
    rfl
  refine take_ (i := 3) (N := some 16) (v := ?_) (a' := ?_) #[true, true, true, true, false, true, false, false] rfl rfl (by kernel_rfl) (fun _ _ _ h => h) (Or.inl ⟨by rfl, ?_⟩) hHeld ?_ ?_
  rotate_left
  · rintro w' ⟨s0, s1, s2, s3, s4, s5⟩
    go_simp
    with_reducible rfl
  rotate_left
  · simp only [Act.put, List.setIfInBounds_toArray, List.set_cons_zero, List.set_cons_succ, i64_w, i32_w]
    rfl
  refine take_ (i := 4) (N := some 17) (v := ?_) (a' := ?_) #[true, true, true, true, true, true, false, false] rfl rfl (by kernel_rfl) (fun _ _ _ h => h) (Or.inl ⟨by rfl, ?_⟩) hHeld ?_ ?_
  rotate_left
  · rintro w' ⟨s0, s1, s2, s3, s4, s5⟩
    go_simp
    with_reducible rfl
  rotate_left
  · simp only [Act.put, List.setIfInBounds_toArray, List.set_cons_zero, List.set_cons_succ, i64_w, i32_w]
    rfl
  refine take_ (i := 6) (N := some 19) (v := ?_) (a' := ?_) #[true, true, true, true, true, true, true, false] rfl rfl (by kernel_rfl) (fun _ _ _ h => h) (Or.inl ⟨by rfl, ?_⟩) hHeld ?_ ?_
  rotate_left
  · rintro w' ⟨s0, s1, s2, s3, s4, s5⟩
    go_simp
    with_reducible rfl
  rotate_left
  · simp only [Act.put, List.setIfInBounds_toArray, List.set_cons_zero, List.set_cons_succ, i64_w, i32_w]
    rfl
  refine last_ (i := 7) (N := none) #[true, true, true, true, true, true, true, true] rfl rfl (by kernel_rfl) (by decide) (fun K hK => ?_)
  refine skip_ (w1 := ?_) (by rfl) rfl ?_ ?_
  rotate_left
  · go_simp
    rfl
  refine hK.out _ _ ?_
  clear hK K
  refine done_ (by kernel_rfl) ?_
  go_wp2_with fail
  have e2 := HE2.out
  subst e2
  refine bodyPost_end (results_none rfl _ _ _) rfl ?_
  exact ⟨rfl, JI.out.lead HM2.out, setB_below JB.out JI.out.b2 o3, JF.out.setBk (fun _ => .inr (.inr (.inl rfl))) o3⟩
theorem iput_T (gi g1 g2 gs g3 : Nat) (A : ISt) (ka kb kc kd x y : Int) (st : Bool) (w0 w : World) (hI : IdealIs w0 w gi g1 g2 gs g3 A) (hB : Below w0.heap.size w0 w) :
    Calls Try.prog 79 #[.pointer (some ⟨gi, 0, none⟩), .agg #[.int .i64 ka, .int .i64 kb, .int .i64 kc, .int .i64 kd], .agg #[.int .u64 x, .int .i64 y, .bool st]] w (IPost w0 w gi g1 g2 gs g3 (putA A (ka, kb, kc, kd) x y) (.tuple #[])) :=
  (iput_U gi g1 g2 gs g3 A ka kb kc kd x y st w0 w hI hB).mono fun _ _ h => h.post
end Go.Proofs.Ytlpnggapndokeaa.PIdealKeeps

