import Derived.Deep.LoopGhost
import Derived.Test.YtinmmnljicmppaaDoorVTaleN
import Derived.Test.YtinmmnljicmppaaDoorVTaleC
/-
The reader's state in memory; grow and count.
-/
namespace Go.Proofs.YtinmmnljicmppaaDoor.PTaleApart
open Go Go.RowKit Go.Proofs.YtinmmnljicmppaaDoorW.PrintWords Go.Proofs.YtinmmnljicmppaaDoorW.PrintLast Go.Proofs.YtinmmnljicmppaaDoorW.PrintMore Go.Proofs.YtinmmnljicmppaaDoor.Str
attribute [local go_sem] max2_int min2_int max_two min_two max_three min_three max_four min_four
set_option linter.unusedVariables false
set_option linter.unusedSimpArgs false
def KeepT (w w' : World) (g : Nat) : Prop := ∀ k cells t, w.heap[k]? = some (.cells cells t (0, 0)) → t ≠ 72 → k ≠ g → w'.heap[k]? = some (.cells cells t (0, 0))
theorem KeepT.refl (w : World) (g : Nat) : KeepT w w g := fun _ _ _ h _ _ => h
theorem KeepT.trans {w w1 w2 : World} {g : Nat} (h : KeepT w w1 g) (h2 : KeepT w1 w2 g) : KeepT w w2 g := fun k c t hk ht hg => h2 k c t (h k c t hk ht hg) ht hg
theorem KeepT.drew {w w1 : World} {g : Nat} (h : KeepT w w1 g) : KeepT w w1.drew g := h
theorem R_keepT {w w' : World} {g B : Nat} {v : Value} {xs : List Int} {cg : Array Value} (h : Kd.R (Kd.int .i64) 3 w B (fun _ => True) v xs) (hk : KeepT w w' g) (hg : w.heap[g]? = some (.cells cg 67 (0, 0))) : Kd.R (Kd.int .i64) 3 w' B (fun _ => True) v xs := by
 refine Kd.R_mono (Kd.R_step (Kd.R_bound h) (fun k hk1 _ => ?_)) (fun _ _ => trivial)
 obtain ⟨_, _, _, q, hq, cells, hc⟩ := hk1
 have hq2 : q = 3 := by simpa [Kd.int, Kd.scalar] using hq
 subst hq2
 rw [hc]
 refine hk k cells _ hc (by decide) (fun e => ?_)
 subst e
 rw [hg] at hc
 cases hc
theorem infoSO : (Tryd.prog.info? 72).map (fun i => (i.zero, i.size, i.bytes)) = some (some (.slice none 0 0), 1, 24) := by kernel_rfl
theorem infoO : (Tryd.prog.info? 33).map (fun i => (i.zero, i.size, i.bytes)) = some (some (.agg #[.int .i64 0, .int .u64 0, .int .u64 0, .int .i64 0]), 4, 32) := by kernel_rfl
theorem setCell_size (w : World) (p : Addr) (u : Value) : (w.setCell p u).heap.size = w.heap.size := by simp [World.setCell]
theorem keep_grown {w W w1 : World} {g B : Nat} {ok : Nat → Prop} {v : Value} {xs : List (List S33)} (hk : KeepT w W g) (hgr : W.grownBy w1 v.ownBlock) (hS : Kd.S (Kd.slice 33 k33) 72 W B ok v xs) : KeepT w w1 g := by
 intro k cells t h ht hg
 have h1 := hk k cells t h ht hg
 have hne : some k ≠ v.ownBlock := fun e => by
  obtain ⟨c2, h2⟩ := Kd.S_typed hS k e.symm
  rw [h1] at h2
  injection h2 with h2
  injection h2 with _ h2
  exact ht h2
 rw [hgr.block k (blk_lt h1) hne]
 exact h1
theorem keep_set {w w1 : World} {g : Nat} (hk : KeepT w w1 g) (j : Nat) (u : Value) : KeepT w (w1.setCell ⟨g, j, none⟩ u) g := by
 intro k cells t h ht hg
 have h1 := hk k cells t h ht hg
 rw [Below.heap_setCell w1 ⟨g, j, none⟩ u k hg]
 exact h1
theorem ops_ne : ∀ q, q ∈ 72 :: (Kd.slice 33 k33).E → q ≠ 67 := by
 intro q hq
 have : q = 72 ∨ q = 33 := by simpa [Kd.slice, k33, Kd.iso, Kd.pair, Kd.int, Kd.scalar] using hq
 omega
set_option maxHeartbeats 64000000 in
set_option maxRecDepth 100000 in
theorem grow_T (a b c d e : Int) (l0 : List (List S33)) (ov pv : Value) (fl dn : Bool) (n : Nat) (B g : Nat) (w : World) (hG : w.heap[g]? = some (.cells #[.int .i64 a, .int .i64 b, .int .i64 c, .int .i64 d, .int .i64 e, ov, pv, .bool fl, .bool dn] 67 (0, 0))) (ok : Nat → Prop) (hS : Kd.S (Kd.slice 33 k33) 72 w B ok ov l0) (hg : B ≤ g) (hn : n ≤ 64) (hfr : ∀ k, w.heap.size ≤ k → ok k) :
  Calls Tryd.prog 61 #[.pointer (some ⟨g, 0, none⟩), .int .i64 (n : Int)] w fun e_ w' => e_ = .returned (.tuple #[]) ∧ ∃ ov', w'.heap[g]? = some (.cells #[.int .i64 a, .int .i64 b, .int .i64 c, .int .i64 d, .int .i64 e, ov', pv, .bool fl, .bool dn] 67 (0, 0)) ∧ Kd.S (Kd.slice 33 k33) 72 w' B ok ov' (growL l0 n) ∧ Below B w w' ∧ KeepT w w' g ∧ w.heap.size ≤ w'.heap.size := by
 have hu1 := Tryd.underlying67
 have hu2 := Tryd.underlying47
 have HGE := Aside0.mk hg
 have HN := Aside0.mk hn
 have HBG := Aside0.mk (show B ≤ w.heap.size by have := blk_lt hG; omega)
 have HG := Aside0.mk hG
 have HS := Aside0.mk hS
 have HFR := Aside0.mk hfr
 clear hG hS hg hn hfr
 go_enter Tryd.func61, Tryd.ntmps61
 go_wp2_with fail
 go_loopg [] (n - l0.length) (fun kq w' => ∃ (l : List (List S33)) (o : Value), Aside0 (growL l n = growL l0 n ∧ n ≤ l.length + kq) ∧ Aside0 (w'.heap[g]? = some (.cells #[.int .i64 a, .int .i64 b, .int .i64 c, .int .i64 d, .int .i64 e, o, pv, .bool fl, .bool dn] 67 (0, 0))) ∧ Aside0 (Kd.S (Kd.slice 33 k33) 72 w' B ok o l) ∧ Aside0 (Below B w w') ∧ Aside0 (KeepT w w' g) ∧ Aside0 (w.heap.size ≤ w'.heap.size))
 case atStart => exact ⟨l0, ov, ⟨rfl, by omega⟩, HG, HS, ⟨Below.refl _ _⟩, ⟨KeepT.refl _ _⟩, ⟨Nat.le_refl _⟩⟩
 case round =>
  clear HG HS
  obtain ⟨l, o, HL, HG, HS, HB, HK, HSZ⟩ := hrel
  obtain ⟨Ao, co, eo⟩ := Kd.S_slice HS.out
  subst eo
  have c5 : wr.cell? ⟨g, 5, none⟩ = some (.slice Ao l.length co) := (blk_cell HG.out 5).trans rfl
  have f5 := blk_frozen HG.out 5
  by_cases hi : l.length < n
  ·have e0 : decide ((l.length : Int) < (n : Int)) = true := decide_eq_true (by omega)
   have e1 := eq_true hi
   have q1 := Aside0.mk hi
   clear hi
   go_wp2_with (first | ((with_reducible refine gate_builtin (b := .append) (xs := #[.tmp 17, .tmp 18]) rfl ?_); at_builtin; refine Kd.S_append (Kd.slice 33 k33) (w0 := w) B rfl (.tmp 17) (.tmp 18) 45 72 (.slice none 0 0) 24 rfl Tryd.underlying45 infoSO rfl (by decide) (by omega) (.slice Ao l.length co) l [] [.slice none 0 0] ok (fun _ => False) rfl rfl ?aP (fun _ hk => hk.elim) ?aF ?aO HB.out ?aS ?aL ?_; (case aP => exact Kd.M_row (Kd.R_nil _ _ _ _ _)); (case aF => exact fun k hk => HFR.out k (by have := HB.out.size; have := HBG.out; have := HSZ.out; omega)); (case aO => exact Kd.S_mono HS.out (fun _ hk => ⟨hk, id⟩)); (case aS => have := HB.out.size; have := HBG.out; omega); (case aL => have := HN.out; have := q1.out; omega); intro v1 w5 ho hb hgr hat; have HS5 := Aside0.mk ho; have HB5 := Aside0.mk hb; have HZ5 := Aside0.mk hgr.size; have HG5 := Aside0.mk (blk_grown HG.out hgr (Kd.S_ne HS.out HG.out (by decide))); have HK5 := Aside0.mk (keep_grown HK.out hgr HS.out); have c5' : w5.cell? ⟨g, 5, none⟩ = some (.slice Ao l.length co) := (blk_cell HG5.out 5).trans rfl; have f5' := blk_frozen HG5.out 5; obtain ⟨Av, cv, ev⟩ := Kd.S_slice HS5.out; simp only [List.length_append, List.length_cons, List.length_nil, Nat.zero_add] at ev; subst ev; clear ho hb hgr hat HS HB HG HK c5 f5))
   go_roundg (n - (l.length + 1))
   case rel => exact ⟨l ++ [[]], .slice Av (l.length + 1) cv, ⟨by rw [← growL_step l n q1.out]; exact HL.out.1, by simp only [List.length_append, List.length_cons, List.length_nil]; omega⟩, ⟨blk_put HG5.out 5 _ rfl⟩, ⟨Kd.S_set HS5.out HG5.out ops_ne 5 _⟩, ⟨Below.setCell HB5.out (p := ⟨g, 5, none⟩) HGE.out _⟩, ⟨keep_set HK5.out 5 _⟩, ⟨by rw [setCell_size]; have := HSZ.out; have := HZ5.out; omega⟩⟩
   case measure => have := HL.out; have := q1.out; omega
  ·have e0 : decide ((l.length : Int) < (n : Int)) = false := decide_eq_false (by omega)
   have e1 := eq_false hi
   have HR := Aside0.mk (show l = growL l0 n by rw [← HL.out.1, growL_id l n (by omega)])
   clear hi
   go_wp2_with fail
   go_end0
   exact ⟨rfl, _, HG.out, by rw [← HR.out]; exact HS.out, HB.out, HK.out, HSZ.out⟩
def RdW (w : World) (B g : Nat) (s : RS) : Prop := ∃ ov pv, w.heap[g]? = some (.cells #[.int .i64 s.a, .int .i64 s.b, .int .i64 s.c, .int .i64 s.d, .int .i64 s.e, ov, pv, .bool s.full, .bool s.done] 67 (0, 0)) ∧ Kd.S (Kd.slice 33 k33) 72 w B (fun _ => True) ov s.ops ∧ Kd.R (Kd.int .i64) 3 w B (fun _ => True) pv s.picks
theorem ints_ne : ∀ q, q ∈ 3 :: (Kd.int .i64).E → q ≠ 67 := by
 intro q hq
 have : q = 3 := by simpa [Kd.int, Kd.scalar] using hq
 omega
set_option maxHeartbeats 64000000 in
set_option maxRecDepth 100000 in
theorem count_T (s : RS) (n : Int) (B g : Nat) (w : World) (hW : RdW w B g s) (hg : B ≤ g) :
  Calls Tryd.prog 44 #[.pointer (some ⟨g, 0, none⟩), .int .i64 n] w fun e_ w' => e_ = .returned (.bool (s.countS n).2) ∧ RdW w' B g (s.countS n).1 ∧ Below B w w' := by
 obtain ⟨a, b, c, d, e, l0, pk, fl, dn⟩ := s
 obtain ⟨ov, pv, hG, hS, hR⟩ := hW
 simp only at hG hS hR
 have hu1 := Tryd.underlying67
 have hu2 := Tryd.underlying47
 have HGE := Aside0.mk hg
 have HG := Aside0.mk hG
 have HS := Aside0.mk hS
 have HR := Aside0.mk hR
 clear hG hS hg hR
 obtain ⟨Ao, co, eo⟩ := Kd.S_slice HS.out
 subst eo
 have c5 : w.cell? ⟨g, 5, none⟩ = some (.slice Ao l0.length co) := (blk_cell HG.out 5).trans rfl
 have c7 : w.cell? ⟨g, 7, none⟩ = some (.bool fl) := (blk_cell HG.out 7).trans rfl
 have fin : ∀ q, q = false → ((⟨a, b, c, d, e, l0, pk, fl, dn⟩ : RS).countS n) = (⟨a, b, c, d, e, l0, pk, fl, dn⟩, q) → ∀ k, Below B w (w.drewN k) ∧ RdW (w.drewN k) B g ((⟨a, b, c, d, e, l0, pk, fl, dn⟩ : RS).countS n).1 := fun q _ h k => ⟨pw_below_drewN (Below.refl _ _) k, by rw [h]; exact ⟨_, _, HG.out, Kd.S_drewN HS.out k, Kd.R_drewN HR.out k⟩⟩
 by_cases h1 : n ≤ (l0.length : Int)
 ·have e1 : decide (n ≤ (l0.length : Int)) = true := decide_eq_true h1
  have hv : (⟨a, b, c, d, e, l0, pk, fl, dn⟩ : RS).countS n = (⟨a, b, c, d, e, l0, pk, fl, dn⟩, false) := if_pos (.inl h1)
  rw [hv]
  clear h1 hv fin
  go_enter Tryd.func44, Tryd.ntmps44
  go_wp2_with fail
  go_ret
  exact ⟨rfl, ⟨_, _, HG.out, HS.out, HR.out⟩, Below.refl _ _⟩
 ·have e1 : decide (n ≤ (l0.length : Int)) = false := decide_eq_false h1
  by_cases h2 : 64 < n
  ·have e2 : decide (n > 64) = true := decide_eq_true h2
   have e3 : decide (64 < n) = true := decide_eq_true h2
   have hv : (⟨a, b, c, d, e, l0, pk, fl, dn⟩ : RS).countS n = (⟨a, b, c, d, e, l0, pk, fl, dn⟩, false) := if_pos (.inr (.inl h2))
   rw [hv]
   clear h1 h2 hv fin
   go_enter Tryd.func44, Tryd.ntmps44
   go_wp2_with fail
   go_ret
   exact ⟨rfl, ⟨_, _, HG.out, HS.out, HR.out⟩, Below.refl _ _⟩
  ·have e2 : decide (n > 64) = false := decide_eq_false h2
   have e3 : decide (64 < n) = false := decide_eq_false h2
   clear fin
   cases fl with
   | true =>
    have hv : (⟨a, b, c, d, e, l0, pk, true, dn⟩ : RS).countS n = (⟨a, b, c, d, e, l0, pk, true, dn⟩, false) := if_pos (.inr (.inr rfl))
    rw [hv]
    clear h1 h2 hv
    go_enter Tryd.func44, Tryd.ntmps44
    go_wp2_with fail
    go_ret
    exact ⟨rfl, ⟨_, _, HG.out, HS.out, HR.out⟩, Below.refl _ _⟩
   | false =>
    have hv : (⟨a, b, c, d, e, l0, pk, false, dn⟩ : RS).countS n = (⟨a, b, c, d, e, growL l0 n.toNat, pk, true, dn⟩, true) := if_neg (by simp [h1, h2])
    rw [hv]
    obtain ⟨m, rfl⟩ := Int.eq_ofNat_of_zero_le (show 0 ≤ n by omega)
    rw [Int.toNat_natCast]
    have e4 := eq_false (show ¬ m ≤ l0.length by omega)
    have e5 := eq_true (show l0.length < m by omega)
    have e6 := eq_false (show ¬ 64 < m by omega)
    have e7 := eq_true (show m ≤ 64 by omega)
    have hgr := grow_T a b c d e l0 (.slice Ao l0.length co) pv false dn m B g w HG.out (fun _ => True) HS.out HGE.out (by omega) (fun _ _ => trivial)
    clear h1 h2 hv
    go_enter Tryd.func44, Tryd.ntmps44
    go_wp2_with fail
    refine hgr.mono ?_
    rintro e_ w1 ⟨rfl, ov', hG1, hS1, hB1, hK1, -⟩
    have HR1 := Aside0.mk (R_keepT HR.out hK1 HG.out)
    have HG1 := Aside0.mk hG1
    have HS1 := Aside0.mk hS1
    have HB1 := Aside0.mk hB1
    have c7' : w1.cell? ⟨g, 7, none⟩ = some (.bool false) := (blk_cell HG1.out 7).trans rfl
    have f7' := blk_frozen HG1.out 7
    clear hgr hG1 hS1 hB1 hK1 HG HS HR c5 c7
    go_wp2_with fail
    go_ret
    exact ⟨rfl, ⟨_, _, blk_put HG1.out 7 (.bool true) rfl, Kd.S_set HS1.out HG1.out ops_ne 7 _, Kd.R_set HR1.out HG1.out ints_ne 7 _⟩, Below.setCell HB1.out (p := ⟨g, 7, none⟩) HGE.out _⟩
end Go.Proofs.YtinmmnljicmppaaDoor.PTaleApart
namespace Go.Proofs.YtinmmnljicmppaaDoor.PTaleApart
open Go Go.RowKit Go.Proofs.YtinmmnljicmppaaDoorW.PrintWords Go.Proofs.YtinmmnljicmppaaDoorW.PrintLast Go.Proofs.YtinmmnljicmppaaDoorW.PrintMore Go.Proofs.YtinmmnljicmppaaDoor.Str
set_option linter.unusedVariables false
set_option linter.unusedSimpArgs false
theorem lend_op {W : World} {B go n co : Nat} {ok : Nat → Prop} {l1 : List (List S33)} (hS : Kd.S (Kd.slice 33 k33) 72 W B ok (.slice (some ⟨go, 0, none⟩) n co) l1) (th : Int) (h0 : 0 ≤ th) (h1 : th < n) :
  ∃ (okx : Nat → Prop) (Ax : Option Addr) (cx : Nat), W.cell? ⟨go, th.toNat, none⟩ = some (.slice Ax (l1.getD th.toNat []).length cx) ∧ W.frozen? ⟨go, th.toNat, none⟩ = false ∧ Kd.R k33 33 W B okx (.slice Ax (l1.getD th.toNat []).length cx) (l1.getD th.toNat []) ∧ (∀ k, W.heap.size ≤ k → ok k → okx k) ∧ (∀ k, okx k → k ≠ go ∧ ok k) ∧
   (∀ W5 v1 xs', (∀ k, k < W.heap.size → some k ≠ (Value.slice Ax (l1.getD th.toNat []).length cx).ownBlock → W5.heap[k]? = W.heap[k]?) → Kd.R k33 33 W5 B okx v1 xs' → Kd.S (Kd.slice 33 k33) 72 (W5.setCell ⟨go, th.toNat, none⟩ v1) B ok (.slice (some ⟨go, 0, none⟩) n co) (l1.set th.toNat xs')) := by
 obtain ⟨oki, c, hcl, hM, hcell, hfr, hok, hH⟩ := Kd.S_elem hS [] th h0 h1
 obtain ⟨v, rfl, hR⟩ := hM
 have hR : k33.R 33 W B oki v (l1.getD th.toNat []) := hR
 obtain ⟨Ax, cx, rfl⟩ := Kd.R_slice hR
 have hc0 : W.cell? ⟨go, th.toNat * 1 + 0, none⟩ = some (.slice Ax (l1.getD th.toNat []).length cx) := hcell 0 _ rfl
 have hf0 : W.frozen? ⟨go, th.toNat * 1 + 0, none⟩ = false := hfr 0
 rw [Nat.mul_one, Nat.add_zero] at hc0 hf0
 have hgo : go < W.heap.size := World.block_lt_of_cell? W _ hc0
 have hH2 := Kd.H_widen hH
 refine ⟨fun k => oki k ∨ ok k ∧ W.heap.size ≤ k, Ax, cx, hc0, hf0, Kd.R_mono hR (fun _ h => .inl h), fun k h1 h2 => .inr ⟨h2, h1⟩, fun k hk => ?_, fun W5 v1 xs' hg hR5 => ?_⟩
 ·rcases hk with hk | ⟨h1, h2⟩
  ·exact ⟨(hok k hk).2, (hok k hk).1⟩
  ·exact ⟨by omega, h1⟩
 ·have hne : ∀ k, (oki k ∨ ok k ∧ W.heap.size ≤ k) → k ≠ go := by
   rintro k (hk | ⟨h1, h2⟩)
   ·exact (hok k hk).2
   ·omega
  have h3 := Kd.H_step hH2 (fun k _ hni hl => hg k hl (fun e => hni (.inl (hR.1 k e.symm))))
  obtain ⟨h4, -⟩ := Kd.H_seg h3 h0 h1 (seg := [v1]) (j := 0) (by show 0 + 1 ≤ 1; omega) (by
   intro q hq
   obtain rfl := List.mem_singleton.1 hq
   obtain ⟨A5, c5, rfl⟩ := Kd.R_slice hR5
   rfl)
  have e : W5.setCells go (th.toNat * 1 + 0) [v1] = W5.setCell ⟨go, th.toNat, none⟩ v1 := by rw [Nat.mul_one, Nat.add_zero]; rfl
  have h4 : Kd.H (Kd.slice 33 k33) 72 (W5.setCells go (th.toNat * 1 + 0) [v1]) B ok (.slice (some ⟨go, 0, none⟩) n co) l1 th (fun k => oki k ∨ ok k ∧ W.heap.size ≤ k) [v1] := h4
  rw [e] at h4
  exact Kd.H_back h4 (x' := xs') (okp := fun k => oki k ∨ ok k ∧ W.heap.size ≤ k) ⟨v1, rfl, Kd.R_far (p := ⟨go, th.toNat, none⟩) hR5 hne v1⟩ (fun _ h => h)
end Go.Proofs.YtinmmnljicmppaaDoor.PTaleApart
