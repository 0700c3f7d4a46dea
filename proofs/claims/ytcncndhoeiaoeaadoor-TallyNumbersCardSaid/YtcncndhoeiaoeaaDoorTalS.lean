/-
Answers that the document fixes by number.
-/
import Derived.Test.YtcncndhoeiaoeaaDoorTalF
import Derived.Test.YtcncndhoeiaoeaaDoorTalC
import Derived.Test.YtcncndhoeiaoeaaDoorTalJ
import Derived.Test.YtcncndhoeiaoeaaDoorTalR
import Derived.Test.YtcncndhoeiaoeaaDoorTalQ
import Derived.Test.YtcncndhoeiaoeaaDoorTalD
namespace Go.Proofs.YtcncndhoeiaoeaaDoor.PTallyExact
open Go Go.RowKit Go.Proofs.YtcncndhoeiaoeaaDoorW.PrintWords Go.Proofs.YtcncndhoeiaoeaaDoorW.PrintLast Go.Proofs.YtcncndhoeiaoeaaDoorW.PrintMore
attribute [local go_sem] max2_int min2_int max_two min_two max_three min_three max_four min_four
set_option linter.unusedVariables false
set_option linter.unusedSimpArgs false
def esAw : List S78 := [⟨0, 0, false, ⟨3, 0, 0, 0⟩, 0, true, false, ⟨0, false, 0⟩⟩, ⟨0, 0, false, ⟨3, 0, 0, 0⟩, 0, false, false, ⟨0, false, 0⟩⟩, ⟨0, 0, true, ⟨0, 0, 0, 0⟩, 0, false, false, ⟨0, false, 0⟩⟩, ⟨0, 0, false, ⟨3, 0, 0, 0⟩, 0, false, true, ⟨0, false, 0⟩⟩]
def tAw : List Int := [1, 0, 0, 0, 0, 0, 0, 0, 0, 0, 0, 0, 0, 0, 0, 0, 0, 0, 0, 0, 0, 0, 3, 1, 1, 0, 1, 0, 0, 0, 0, 0, 0, 0, 0, 0, 0, 0, 0, 0, 0, 0, 0, 0, 0, 0, 0, 0, 0, 0, 0, 0, 0, 0, 0, 0, 0, 0, 0, 0, 0, 0, 0, 0]
def sAw : List Int := [2, 0, 0, 0, 0, 0, 0, 0, 0, 0, 0, 0, 0, 0, 0, 0, 0, 0, 0, 0, 0, 0, 6, 2, 2, 0, 2, 0, 0, 0, 0, 0, 0, 0, 0, 0, 0, 0, 0, 0, 0, 0, 0, 0, 0, 0, 0, 0, 0, 0, 0, 0, 0, 0, 0, 0, 0, 0, 0, 0, 0, 0, 0, 0]
theorem of_aw : ofV esAw = tAw := by decide +kernel
theorem sum_aw : sumV [tAw, tAw] = sAw := by decide +kernel
theorem less_aw : lessV sAw tAw = (tAw, true) := by decide +kernel
theorem less_aw2 : (lessV tAw sAw).2 = false := by decide +kernel
theorem less_aw3 : (lessV tAw sAw).1 = zero64 := by decide +kernel
theorem steps_aw : stepsN sAw 9 = 6 := by decide +kernel
theorem net_aw : netV tAw = 0 := by decide +kernel
theorem ints_aw : Ints tAw := by unfold Ints; decide +kernel
theorem itB_d (d : Nat) (h : d < 10) : itB (d : Int) = ⟨#[UInt8.ofNat (48 + d)]⟩ := by
  unfold itB Lib.itoa
  rw [if_neg (by omega), Int.toNat_natCast, Lib.decDigits_one h]
theorem lines_aw : linesU tAw 9 = [⟨#[105, 100, 108, 101, 32, 49]⟩, ⟨#[104, 97, 115, 32, 51, 32, 49, 32, 49, 32, 48, 32, 49, 32, 48, 32, 48]⟩] := by
  have r1 : rowD tAw 1 7 = false := by decide +kernel
  have r2 : rowD tAw 2 7 = false := by decide +kernel
  have r3 : rowD tAw 3 7 = true := by decide +kernel
  have r4 : rowD tAw 4 7 = false := by decide +kernel
  have r5 : rowD tAw 5 7 = false := by decide +kernel
  have r6 : rowD tAw 6 7 = false := by decide +kernel
  have r7 : rowD tAw 7 7 = false := by decide +kernel
  have r8 : rowD tAw 8 7 = false := by decide +kernel
  have i0 := itB_d 0 (by omega)
  have i1 := itB_d 1 (by omega)
  have i3 := itB_d 3 (by omega)
  have h0 : linesU tAw 0 = [⟨#[105, 100, 108, 101, 32, 49]⟩] := by
    show [(⟨#[105, 100, 108, 101, 32]⟩ : ByteArray) ++ itB ((1 : Nat) : Int)] = _
    rw [i1]; rfl
  have h3 : rowS tAw 3 7 = ⟨#[104, 97, 115, 32, 51, 32, 49, 32, 49, 32, 48, 32, 49, 32, 48, 32, 48]⟩ := by
    show ((((((((nameN 3 ++ ⟨#[32]⟩) ++ itB ((3 : Nat) : Int)) ++ ⟨#[32]⟩ ++ itB ((1 : Nat) : Int)) ++ ⟨#[32]⟩ ++ itB ((1 : Nat) : Int)) ++ ⟨#[32]⟩ ++ itB ((0 : Nat) : Int)) ++ ⟨#[32]⟩ ++ itB ((1 : Nat) : Int)) ++ ⟨#[32]⟩ ++ itB ((0 : Nat) : Int)) ++ ⟨#[32]⟩ ++ itB ((0 : Nat) : Int)) = _
    rw [i0, i1, i3]; decide +kernel
  have hs : ∀ n, n ≠ 0 → linesU tAw (n + 1) = linesU tAw n ++ (if rowD tAw n 7 = true then [rowS tAw n 7] else []) := fun n hn => by rw [linesU, if_neg hn]
  have h1 : linesU tAw 1 = linesU tAw 0 := by
    show linesU tAw 0 ++ [] = linesU tAw 0
    exact List.append_nil _
  rw [hs 8 (by omega), hs 7 (by omega), hs 6 (by omega), hs 5 (by omega), hs 4 (by omega), hs 3 (by omega), hs 2 (by omega), hs 1 (by omega), h1, h0, r1, r2, r3, r4, r5, r6, r7, r8, h3]
  rfl
theorem flatMap_get {α : Type} (f : α → List Value) (n : Nat) (hf : ∀ x, (f x).length = n) : ∀ (es : List α) (j i : Nat) x, es[j]? = some x → i < n → (es.flatMap f)[j * n + i]? = (f x)[i]?
  | [], j, i, x, h, _ => by simp at h
  | e :: r, 0, i, x, h, hi => by
    obtain rfl : e = x := by simpa using h
    rw [List.flatMap_cons, Nat.zero_mul, Nat.zero_add, List.getElem?_append_left (by rw [hf]; exact hi)]
  | e :: r, j + 1, i, x, h, hi => by
    rw [List.flatMap_cons, List.getElem?_append_right (by rw [hf, Nat.succ_mul]; omega), hf, show (j + 1) * n + i - n = j * n + i by rw [Nat.succ_mul]; omega]
    exact flatMap_get f n hf r j i x (by simpa using h) hi
theorem add_0 (g k : Nat) : (⟨g, 0, none⟩ : Addr).add k = ⟨g, k, none⟩ := by unfold Addr.add; split <;> simp [*]
theorem C_block {α : Type} {d : Kd α} {W : World} {g t : Nat} (f : α → List Value) (hf : ∀ x, (f x).length = d.sz) (hK : ∀ x, d.K W x (f x)) (es : List α) (hn : es.length ≤ 9223372036854775807) {cs : Array Value} (hc : cs = (es.flatMap f).toArray) (hh : W.heap[g]? = some (.cells cs t (0, 0))) : d.C W (some ⟨g, 0, none⟩) es.length es := by
  subst hc
  refine ⟨rfl, hn, fun _ => ⟨_, rfl, fun j x hj => ⟨f x, hf x, hK x, fun i u hu => ?_⟩⟩⟩
  have hi : i < d.sz := by rw [← hf x]; exact (List.getElem?_eq_some_iff.1 hu).1
  rw [add_0, blk_cell hh, List.getElem?_toArray, flatMap_get f d.sz hf es j i x hj hi, hu]
theorem at_s' {W : World} {B c m : Nat} {p : Addr} {ok : Nat → Prop} {xs : List ByteArray} (h : Kd.R Kd.string 9 W B ok (.slice (some p) m c) xs) (hm : m = xs.length) (i : Nat) (h1 : i < m) : W.cell? (p.add i) = some (.string (xs.getD i ⟨#[]⟩)) := by
  obtain ⟨ad, e, h2⟩ := at_s h hm i h1
  injection e with e
  subst e
  exact h2
def c78 (x : S78) : List Value := [.int .i64 x.f0, .int .i64 x.f1, .bool x.f2, .int .i64 x.f3.f0, .int .u64 x.f3.f1, .int .u64 x.f3.f2, .int .i64 x.f3.f3, .int .i64 x.f4, .bool x.f5, .bool x.f6, .int .i64 x.f7.f0, .bool x.f7.f1, .int .u64 x.f7.f2]
set_option maxHeartbeats 64000000 in
set_option maxRecDepth 100000 in
theorem awake_T (w : World) (hT : TabW w) : Calls Tryd.prog 27 #[] w fun e w' => e = .returned (.bool true) ∧ Below w.heap.size w w' := by
  have hu51 := Tryd.underlying51
  have hu62 := Tryd.underlying62
  have hu73 := Tryd.underlying73
  have hu78 := Tryd.underlying78
  have hu90 := Tryd.underlying90
  have HT := Aside0.mk hT
  clear hT
  obtain ⟨a, ha⟩ : ∃ a, a = tAw := ⟨_, rfl⟩
  obtain ⟨s, hs⟩ : ∃ s, s = sAw := ⟨_, rfl⟩
  have hof := of_aw
  have hsum := sum_aw
  have hl1 := less_aw
  have hl2 := less_aw2
  have hl3 := less_aw3
  have hst := steps_aw
  have hnet := net_aw
  have hint := ints_aw
  have hlin := lines_aw
  have hla : tAw.length = 64 := rfl
  have hls : sAw.length = 64 := rfl
  rw [← ha] at hof hsum hl1 hl2 hl3 hnet hint hlin hla
  rw [← hs] at hsum hl1 hl2 hl3 hst hls
  clear ha hs
  have hts : (TV a).size = 64 := by rw [TV_size, hla]
  have L_P := Aside0.mk (show w.heap.size ≤ w.heap.size from Nat.le_refl _)
  have L_L := Aside0.mk (show w.heap.size ≤ w.heap.size + 1 from by have := L_P.out; omega)
  have NE_P_L := Aside0.mk (show w.heap.size ≠ w.heap.size + 1 by omega)
  have P_1 := Aside0.mk (blk_alloc (blk_new (w) (.cells (#[.int .i64 3, .int .u64 0, .int .u64 0, .int .i64 0]) 73)) (.cells (#[.int .i64 0, .int .i64 0, .bool false, .int .i64 3, .int .u64 0, .int .u64 0, .int .i64 0, .int .i64 0, .bool true, .bool false, .int .i64 0, .bool false, .int .u64 0, .int .i64 0, .int .i64 0, .bool false, .int .i64 3, .int .u64 0, .int .u64 0, .int .i64 0, .int .i64 0, .bool false, .bool false, .int .i64 0, .bool false, .int .u64 0, .int .i64 0, .int .i64 0, .bool true, .int .i64 0, .int .u64 0, .int .u64 0, .int .i64 0, .int .i64 0, .bool false, .bool false, .int .i64 0, .bool false, .int .u64 0, .int .i64 0, .int .i64 0, .bool false, .int .i64 3, .int .u64 0, .int .u64 0, .int .i64 0, .int .i64 0, .bool false, .bool true, .int .i64 0, .bool false, .int .u64 0]) 78))
  have L_2 := Aside0.mk (blk_new2 (w) (.cells (#[.int .i64 3, .int .u64 0, .int .u64 0, .int .i64 0]) 73) (.cells (#[.int .i64 0, .int .i64 0, .bool false, .int .i64 3, .int .u64 0, .int .u64 0, .int .i64 0, .int .i64 0, .bool true, .bool false, .int .i64 0, .bool false, .int .u64 0, .int .i64 0, .int .i64 0, .bool false, .int .i64 3, .int .u64 0, .int .u64 0, .int .i64 0, .int .i64 0, .bool false, .bool false, .int .i64 0, .bool false, .int .u64 0, .int .i64 0, .int .i64 0, .bool true, .int .i64 0, .int .u64 0, .int .u64 0, .int .i64 0, .int .i64 0, .bool false, .bool false, .int .i64 0, .bool false, .int .u64 0, .int .i64 0, .int .i64 0, .bool false, .int .i64 3, .int .u64 0, .int .u64 0, .int .i64 0, .int .i64 0, .bool false, .bool true, .int .i64 0, .bool false, .int .u64 0]) 78))
  have B3 := Aside0.mk (below_alloc (below_alloc (Below.refl w.heap.size w) (.cells (#[.int .i64 3, .int .u64 0, .int .u64 0, .int .i64 0]) 73)) (.cells (#[.int .i64 0, .int .i64 0, .bool false, .int .i64 3, .int .u64 0, .int .u64 0, .int .i64 0, .int .i64 0, .bool true, .bool false, .int .i64 0, .bool false, .int .u64 0, .int .i64 0, .int .i64 0, .bool false, .int .i64 3, .int .u64 0, .int .u64 0, .int .i64 0, .int .i64 0, .bool false, .bool false, .int .i64 0, .bool false, .int .u64 0, .int .i64 0, .int .i64 0, .bool true, .int .i64 0, .int .u64 0, .int .u64 0, .int .i64 0, .int .i64 0, .bool false, .bool false, .int .i64 0, .bool false, .int .u64 0, .int .i64 0, .int .i64 0, .bool false, .int .i64 3, .int .u64 0, .int .u64 0, .int .i64 0, .int .i64 0, .bool false, .bool true, .int .i64 0, .bool false, .int .u64 0]) 78))
  go_enter Tryd.func27, Tryd.ntmps27
  go_wp2_with fail
  have HC := C_block (d := k78) c78 (fun _ => rfl) (fun x => k78_mk _ x) esAw (by decide) (by rfl) L_2.out
  refine (of_T _ 4 esAw _ HC (by decide)).mono ?_
  rintro e_ w1 ⟨rfl, hb⟩
  rw [hof]
  have P_4 := Aside0.mk (blk_below P_1.out hb)
  have L_5 := Aside0.mk (blk_below L_2.out hb)
  have B6 := Aside0.mk (below_step B3.out hb)
  clear hb P_1 L_2 B3
  clear HC
  have L_T := Aside0.mk (show w.heap.size ≤ w1.heap.size from B6.out.size)
  have NE_P_T := Aside0.mk (show w.heap.size ≠ w1.heap.size by have := blk_lt P_4.out; omega)
  have NE_L_T := Aside0.mk (show w.heap.size + 1 ≠ w1.heap.size by have := blk_lt L_5.out; omega)
  have P_7 := Aside0.mk (blk_alloc P_4.out (.cells #[.int .i64 0, .int .i64 0, .int .i64 0, .int .i64 0, .int .i64 0, .int .i64 0, .int .i64 0, .int .i64 0, .int .i64 0, .int .i64 0, .int .i64 0, .int .i64 0, .int .i64 0, .int .i64 0, .int .i64 0, .int .i64 0, .int .i64 0, .int .i64 0, .int .i64 0, .int .i64 0, .int .i64 0, .int .i64 0, .int .i64 0, .int .i64 0, .int .i64 0, .int .i64 0, .int .i64 0, .int .i64 0, .int .i64 0, .int .i64 0, .int .i64 0, .int .i64 0, .int .i64 0, .int .i64 0, .int .i64 0, .int .i64 0, .int .i64 0, .int .i64 0, .int .i64 0, .int .i64 0, .int .i64 0, .int .i64 0, .int .i64 0, .int .i64 0, .int .i64 0, .int .i64 0, .int .i64 0, .int .i64 0, .int .i64 0, .int .i64 0, .int .i64 0, .int .i64 0, .int .i64 0, .int .i64 0, .int .i64 0, .int .i64 0, .int .i64 0, .int .i64 0, .int .i64 0, .int .i64 0, .int .i64 0, .int .i64 0, .int .i64 0, .int .i64 0] 51))
  have L_8 := Aside0.mk (blk_alloc L_5.out (.cells #[.int .i64 0, .int .i64 0, .int .i64 0, .int .i64 0, .int .i64 0, .int .i64 0, .int .i64 0, .int .i64 0, .int .i64 0, .int .i64 0, .int .i64 0, .int .i64 0, .int .i64 0, .int .i64 0, .int .i64 0, .int .i64 0, .int .i64 0, .int .i64 0, .int .i64 0, .int .i64 0, .int .i64 0, .int .i64 0, .int .i64 0, .int .i64 0, .int .i64 0, .int .i64 0, .int .i64 0, .int .i64 0, .int .i64 0, .int .i64 0, .int .i64 0, .int .i64 0, .int .i64 0, .int .i64 0, .int .i64 0, .int .i64 0, .int .i64 0, .int .i64 0, .int .i64 0, .int .i64 0, .int .i64 0, .int .i64 0, .int .i64 0, .int .i64 0, .int .i64 0, .int .i64 0, .int .i64 0, .int .i64 0, .int .i64 0, .int .i64 0, .int .i64 0, .int .i64 0, .int .i64 0, .int .i64 0, .int .i64 0, .int .i64 0, .int .i64 0, .int .i64 0, .int .i64 0, .int .i64 0, .int .i64 0, .int .i64 0, .int .i64 0, .int .i64 0] 51))
  have T_9 := Aside0.mk (blk_new (w1) (.cells #[.int .i64 0, .int .i64 0, .int .i64 0, .int .i64 0, .int .i64 0, .int .i64 0, .int .i64 0, .int .i64 0, .int .i64 0, .int .i64 0, .int .i64 0, .int .i64 0, .int .i64 0, .int .i64 0, .int .i64 0, .int .i64 0, .int .i64 0, .int .i64 0, .int .i64 0, .int .i64 0, .int .i64 0, .int .i64 0, .int .i64 0, .int .i64 0, .int .i64 0, .int .i64 0, .int .i64 0, .int .i64 0, .int .i64 0, .int .i64 0, .int .i64 0, .int .i64 0, .int .i64 0, .int .i64 0, .int .i64 0, .int .i64 0, .int .i64 0, .int .i64 0, .int .i64 0, .int .i64 0, .int .i64 0, .int .i64 0, .int .i64 0, .int .i64 0, .int .i64 0, .int .i64 0, .int .i64 0, .int .i64 0, .int .i64 0, .int .i64 0, .int .i64 0, .int .i64 0, .int .i64 0, .int .i64 0, .int .i64 0, .int .i64 0, .int .i64 0, .int .i64 0, .int .i64 0, .int .i64 0, .int .i64 0, .int .i64 0, .int .i64 0, .int .i64 0] 51))
  have B10 := Aside0.mk (below_alloc B6.out (.cells #[.int .i64 0, .int .i64 0, .int .i64 0, .int .i64 0, .int .i64 0, .int .i64 0, .int .i64 0, .int .i64 0, .int .i64 0, .int .i64 0, .int .i64 0, .int .i64 0, .int .i64 0, .int .i64 0, .int .i64 0, .int .i64 0, .int .i64 0, .int .i64 0, .int .i64 0, .int .i64 0, .int .i64 0, .int .i64 0, .int .i64 0, .int .i64 0, .int .i64 0, .int .i64 0, .int .i64 0, .int .i64 0, .int .i64 0, .int .i64 0, .int .i64 0, .int .i64 0, .int .i64 0, .int .i64 0, .int .i64 0, .int .i64 0, .int .i64 0, .int .i64 0, .int .i64 0, .int .i64 0, .int .i64 0, .int .i64 0, .int .i64 0, .int .i64 0, .int .i64 0, .int .i64 0, .int .i64 0, .int .i64 0, .int .i64 0, .int .i64 0, .int .i64 0, .int .i64 0, .int .i64 0, .int .i64 0, .int .i64 0, .int .i64 0, .int .i64 0, .int .i64 0, .int .i64 0, .int .i64 0, .int .i64 0, .int .i64 0, .int .i64 0, .int .i64 0] 51))
  clear P_4 L_5 B6
  go_wp2_with (first
    | ((with_reducible refine wpSt 51 (.tmp 2) (.tmp 18) ?_); refine store_whole (w := w) (B := w.heap.size) rfl rfl 51 (.tmp 2) (.tmp 18) rfl (g := w1.heap.size) (cs := TV a) rfl _ rfl rfl (tot51 _ (by first | assumption | (simp [zero64]; done))) (TV_one _) T_9.out (by first | (simp [TV_size, zero64]; done) | (simp [TV_size, zero64]; omega) | (rw [TV_size, TV_size]; simp [zero64]; omega)) L_T.out B10.out ?_; intro w_11 h1 h2 h3 h4; have P_12 := Aside0.mk ((h3 _ NE_P_T.out).trans P_7.out); have L_13 := Aside0.mk ((h3 _ NE_L_T.out).trans L_8.out); have T_14 := Aside0.mk (h1); have B15 := Aside0.mk (h2); clear h1 h2 h3 h4 P_7 L_8 T_9 B10)
    | ((with_reducible refine wpLd 51 (.tmp 2) ?_); refine wpList_load_row_g (by rfl) 51 (.tmp 2) rfl (w1.heap.size) rfl 51 (TV a) (0, 0) _ T_14.out Tryd.underlying51 rfl (info51 _ (by first | assumption | (simp; done))) ?_))
  refine (lines_T a _ hla hint (HT.out.below B15.out)).mono ?_
  rintro e_ w2 ⟨vL, rfl, hR, hb⟩
  rw [hlin] at hR
  have R_900 := Aside0.mk (Kd.R_lower hR B15.out.size)
  have P_900 := Aside0.mk (blk_below P_12.out hb)
  have L_900 := Aside0.mk (blk_below L_13.out hb)
  have T_900 := Aside0.mk (blk_below T_14.out hb)
  have B900 := Aside0.mk (below_step B15.out hb)
  clear hR hb B15 P_12 L_13 T_14
  have TT := Aside0.mk T_900.out
  have L_Q := Aside0.mk (show w.heap.size ≤ w2.heap.size from B900.out.size)
  have NE_P_Q := Aside0.mk (show w.heap.size ≠ w2.heap.size by have := blk_lt P_900.out; omega)
  have NE_L_Q := Aside0.mk (show w.heap.size + 1 ≠ w2.heap.size by have := blk_lt L_900.out; omega)
  have NE_T_Q := Aside0.mk (show w1.heap.size ≠ w2.heap.size by have := blk_lt T_900.out; omega)
  have P_901 := Aside0.mk (blk_alloc P_900.out (.cells (TV (a ++ a)) 51))
  have L_902 := Aside0.mk (blk_alloc L_900.out (.cells (TV (a ++ a)) 51))
  have T_903 := Aside0.mk (blk_alloc T_900.out (.cells (TV (a ++ a)) 51))
  have Q_904 := Aside0.mk (blk_new (w2) (.cells (TV (a ++ a)) 51))
  have B905 := Aside0.mk (below_alloc B900.out (.cells (TV (a ++ a)) 51))
  clear P_900 L_900 T_900 B900
  have R_906 := Aside0.mk (Kd.R_alloc (R_900.out) (.cells (TV (a ++ a)) 51))
  clear R_900
  go_wp2_with (first
    | ((with_reducible refine wpLd 51 (.tmp 2) ?_); refine wpList_load_row_g (by rfl) 51 (.tmp 2) rfl (w1.heap.size) rfl 51 (TV a) (0, 0) _ TT.out Tryd.underlying51 rfl (info51 _ (by first | assumption | (simp; done))) ?_)
    | ((with_reducible refine gate_dst (N := 23) rfl ?_); refine Kd.event_run rfl (exec_two (.tmp 21) (.tmp 22) rfl _ _ rfl rfl hla hla) ?_))
  clear TT
  refine (sum_T [a, a] _ 2 _ (by intro x hx; simp only [List.mem_cons, List.not_mem_nil, or_false, or_self] at hx; rw [hx]; exact hla) (by simp) (.inr ⟨_, _, rfl, by rw [show [a, a].flatten = a ++ a by simp]; exact Q_904.out⟩)).mono ?_
  rintro e_ w3 ⟨rfl, hb⟩
  rw [hsum]
  have P_907 := Aside0.mk (blk_below P_901.out hb)
  have L_908 := Aside0.mk (blk_below L_902.out hb)
  have T_909 := Aside0.mk (blk_below T_903.out hb)
  have Q_910 := Aside0.mk (blk_below Q_904.out hb)
  have R_911 := Aside0.mk (Kd.R_below R_906.out hb)
  have B912 := Aside0.mk (below_step B905.out hb)
  clear hb P_901 L_902 T_903 Q_904 R_906 B905
  have L_S := Aside0.mk (show w.heap.size ≤ w3.heap.size from B912.out.size)
  have NE_P_S := Aside0.mk (show w.heap.size ≠ w3.heap.size by have := blk_lt P_907.out; omega)
  have NE_L_S := Aside0.mk (show w.heap.size + 1 ≠ w3.heap.size by have := blk_lt L_908.out; omega)
  have NE_T_S := Aside0.mk (show w1.heap.size ≠ w3.heap.size by have := blk_lt T_909.out; omega)
  have NE_Q_S := Aside0.mk (show w2.heap.size ≠ w3.heap.size by have := blk_lt Q_910.out; omega)
  have P_913 := Aside0.mk (blk_alloc P_907.out (.cells #[.int .i64 0, .int .i64 0, .int .i64 0, .int .i64 0, .int .i64 0, .int .i64 0, .int .i64 0, .int .i64 0, .int .i64 0, .int .i64 0, .int .i64 0, .int .i64 0, .int .i64 0, .int .i64 0, .int .i64 0, .int .i64 0, .int .i64 0, .int .i64 0, .int .i64 0, .int .i64 0, .int .i64 0, .int .i64 0, .int .i64 0, .int .i64 0, .int .i64 0, .int .i64 0, .int .i64 0, .int .i64 0, .int .i64 0, .int .i64 0, .int .i64 0, .int .i64 0, .int .i64 0, .int .i64 0, .int .i64 0, .int .i64 0, .int .i64 0, .int .i64 0, .int .i64 0, .int .i64 0, .int .i64 0, .int .i64 0, .int .i64 0, .int .i64 0, .int .i64 0, .int .i64 0, .int .i64 0, .int .i64 0, .int .i64 0, .int .i64 0, .int .i64 0, .int .i64 0, .int .i64 0, .int .i64 0, .int .i64 0, .int .i64 0, .int .i64 0, .int .i64 0, .int .i64 0, .int .i64 0, .int .i64 0, .int .i64 0, .int .i64 0, .int .i64 0] 51))
  have L_914 := Aside0.mk (blk_alloc L_908.out (.cells #[.int .i64 0, .int .i64 0, .int .i64 0, .int .i64 0, .int .i64 0, .int .i64 0, .int .i64 0, .int .i64 0, .int .i64 0, .int .i64 0, .int .i64 0, .int .i64 0, .int .i64 0, .int .i64 0, .int .i64 0, .int .i64 0, .int .i64 0, .int .i64 0, .int .i64 0, .int .i64 0, .int .i64 0, .int .i64 0, .int .i64 0, .int .i64 0, .int .i64 0, .int .i64 0, .int .i64 0, .int .i64 0, .int .i64 0, .int .i64 0, .int .i64 0, .int .i64 0, .int .i64 0, .int .i64 0, .int .i64 0, .int .i64 0, .int .i64 0, .int .i64 0, .int .i64 0, .int .i64 0, .int .i64 0, .int .i64 0, .int .i64 0, .int .i64 0, .int .i64 0, .int .i64 0, .int .i64 0, .int .i64 0, .int .i64 0, .int .i64 0, .int .i64 0, .int .i64 0, .int .i64 0, .int .i64 0, .int .i64 0, .int .i64 0, .int .i64 0, .int .i64 0, .int .i64 0, .int .i64 0, .int .i64 0, .int .i64 0, .int .i64 0, .int .i64 0] 51))
  have T_915 := Aside0.mk (blk_alloc T_909.out (.cells #[.int .i64 0, .int .i64 0, .int .i64 0, .int .i64 0, .int .i64 0, .int .i64 0, .int .i64 0, .int .i64 0, .int .i64 0, .int .i64 0, .int .i64 0, .int .i64 0, .int .i64 0, .int .i64 0, .int .i64 0, .int .i64 0, .int .i64 0, .int .i64 0, .int .i64 0, .int .i64 0, .int .i64 0, .int .i64 0, .int .i64 0, .int .i64 0, .int .i64 0, .int .i64 0, .int .i64 0, .int .i64 0, .int .i64 0, .int .i64 0, .int .i64 0, .int .i64 0, .int .i64 0, .int .i64 0, .int .i64 0, .int .i64 0, .int .i64 0, .int .i64 0, .int .i64 0, .int .i64 0, .int .i64 0, .int .i64 0, .int .i64 0, .int .i64 0, .int .i64 0, .int .i64 0, .int .i64 0, .int .i64 0, .int .i64 0, .int .i64 0, .int .i64 0, .int .i64 0, .int .i64 0, .int .i64 0, .int .i64 0, .int .i64 0, .int .i64 0, .int .i64 0, .int .i64 0, .int .i64 0, .int .i64 0, .int .i64 0, .int .i64 0, .int .i64 0] 51))
  have Q_916 := Aside0.mk (blk_alloc Q_910.out (.cells #[.int .i64 0, .int .i64 0, .int .i64 0, .int .i64 0, .int .i64 0, .int .i64 0, .int .i64 0, .int .i64 0, .int .i64 0, .int .i64 0, .int .i64 0, .int .i64 0, .int .i64 0, .int .i64 0, .int .i64 0, .int .i64 0, .int .i64 0, .int .i64 0, .int .i64 0, .int .i64 0, .int .i64 0, .int .i64 0, .int .i64 0, .int .i64 0, .int .i64 0, .int .i64 0, .int .i64 0, .int .i64 0, .int .i64 0, .int .i64 0, .int .i64 0, .int .i64 0, .int .i64 0, .int .i64 0, .int .i64 0, .int .i64 0, .int .i64 0, .int .i64 0, .int .i64 0, .int .i64 0, .int .i64 0, .int .i64 0, .int .i64 0, .int .i64 0, .int .i64 0, .int .i64 0, .int .i64 0, .int .i64 0, .int .i64 0, .int .i64 0, .int .i64 0, .int .i64 0, .int .i64 0, .int .i64 0, .int .i64 0, .int .i64 0, .int .i64 0, .int .i64 0, .int .i64 0, .int .i64 0, .int .i64 0, .int .i64 0, .int .i64 0, .int .i64 0] 51))
  have S_917 := Aside0.mk (blk_new (w3) (.cells #[.int .i64 0, .int .i64 0, .int .i64 0, .int .i64 0, .int .i64 0, .int .i64 0, .int .i64 0, .int .i64 0, .int .i64 0, .int .i64 0, .int .i64 0, .int .i64 0, .int .i64 0, .int .i64 0, .int .i64 0, .int .i64 0, .int .i64 0, .int .i64 0, .int .i64 0, .int .i64 0, .int .i64 0, .int .i64 0, .int .i64 0, .int .i64 0, .int .i64 0, .int .i64 0, .int .i64 0, .int .i64 0, .int .i64 0, .int .i64 0, .int .i64 0, .int .i64 0, .int .i64 0, .int .i64 0, .int .i64 0, .int .i64 0, .int .i64 0, .int .i64 0, .int .i64 0, .int .i64 0, .int .i64 0, .int .i64 0, .int .i64 0, .int .i64 0, .int .i64 0, .int .i64 0, .int .i64 0, .int .i64 0, .int .i64 0, .int .i64 0, .int .i64 0, .int .i64 0, .int .i64 0, .int .i64 0, .int .i64 0, .int .i64 0, .int .i64 0, .int .i64 0, .int .i64 0, .int .i64 0, .int .i64 0, .int .i64 0, .int .i64 0, .int .i64 0] 51))
  have B918 := Aside0.mk (below_alloc B912.out (.cells #[.int .i64 0, .int .i64 0, .int .i64 0, .int .i64 0, .int .i64 0, .int .i64 0, .int .i64 0, .int .i64 0, .int .i64 0, .int .i64 0, .int .i64 0, .int .i64 0, .int .i64 0, .int .i64 0, .int .i64 0, .int .i64 0, .int .i64 0, .int .i64 0, .int .i64 0, .int .i64 0, .int .i64 0, .int .i64 0, .int .i64 0, .int .i64 0, .int .i64 0, .int .i64 0, .int .i64 0, .int .i64 0, .int .i64 0, .int .i64 0, .int .i64 0, .int .i64 0, .int .i64 0, .int .i64 0, .int .i64 0, .int .i64 0, .int .i64 0, .int .i64 0, .int .i64 0, .int .i64 0, .int .i64 0, .int .i64 0, .int .i64 0, .int .i64 0, .int .i64 0, .int .i64 0, .int .i64 0, .int .i64 0, .int .i64 0, .int .i64 0, .int .i64 0, .int .i64 0, .int .i64 0, .int .i64 0, .int .i64 0, .int .i64 0, .int .i64 0, .int .i64 0, .int .i64 0, .int .i64 0, .int .i64 0, .int .i64 0, .int .i64 0, .int .i64 0] 51))
  clear P_907 L_908 T_909 Q_910 B912
  have R_919 := Aside0.mk (Kd.R_alloc (R_911.out) (.cells #[.int .i64 0, .int .i64 0, .int .i64 0, .int .i64 0, .int .i64 0, .int .i64 0, .int .i64 0, .int .i64 0, .int .i64 0, .int .i64 0, .int .i64 0, .int .i64 0, .int .i64 0, .int .i64 0, .int .i64 0, .int .i64 0, .int .i64 0, .int .i64 0, .int .i64 0, .int .i64 0, .int .i64 0, .int .i64 0, .int .i64 0, .int .i64 0, .int .i64 0, .int .i64 0, .int .i64 0, .int .i64 0, .int .i64 0, .int .i64 0, .int .i64 0, .int .i64 0, .int .i64 0, .int .i64 0, .int .i64 0, .int .i64 0, .int .i64 0, .int .i64 0, .int .i64 0, .int .i64 0, .int .i64 0, .int .i64 0, .int .i64 0, .int .i64 0, .int .i64 0, .int .i64 0, .int .i64 0, .int .i64 0, .int .i64 0, .int .i64 0, .int .i64 0, .int .i64 0, .int .i64 0, .int .i64 0, .int .i64 0, .int .i64 0, .int .i64 0, .int .i64 0, .int .i64 0, .int .i64 0, .int .i64 0, .int .i64 0, .int .i64 0, .int .i64 0] 51))
  clear R_911
  go_wp2_with (first
    | ((with_reducible refine wpSt 51 (.tmp 4) (.tmp 24) ?_); refine store_whole (w := w) (B := w.heap.size) rfl rfl 51 (.tmp 4) (.tmp 24) rfl (g := w3.heap.size) (cs := TV s) rfl _ rfl rfl (tot51 _ (by first | assumption | (simp [zero64]; done))) (TV_one _) S_917.out (by first | (simp [TV_size, zero64]; done) | (simp [TV_size, zero64]; omega) | (rw [TV_size, TV_size]; simp [zero64]; omega)) L_S.out B918.out ?_; intro w_920 h1 h2 h3 h4; have R_921 := Aside0.mk (row_fars R_919.out S_917.out (by decide) h3); have P_922 := Aside0.mk ((h3 _ NE_P_S.out).trans P_913.out); have L_923 := Aside0.mk ((h3 _ NE_L_S.out).trans L_914.out); have T_924 := Aside0.mk ((h3 _ NE_T_S.out).trans T_915.out); have Q_925 := Aside0.mk ((h3 _ NE_Q_S.out).trans Q_916.out); have S_926 := Aside0.mk (h1); have B927 := Aside0.mk (h2); clear h1 h2 h3 h4 R_919 P_913 L_914 T_915 Q_916 S_917 B918)
    | ((with_reducible refine wpLd 51 (.tmp 4) ?_); refine wpList_load_row_g (by rfl) 51 (.tmp 4) rfl (w3.heap.size) rfl 51 (TV s) (0, 0) _ S_926.out Tryd.underlying51 rfl (info51 _ (by first | assumption | (simp; done))) ?_)
    | ((with_reducible refine wpLd 51 (.tmp 2) ?_); refine wpList_load_row_g (by rfl) 51 (.tmp 2) rfl (w1.heap.size) rfl 51 (TV a) (0, 0) _ T_924.out Tryd.underlying51 rfl (info51 _ (by first | assumption | (simp; done))) ?_))
  refine (less_T s a _ hls hla).mono ?_
  rintro e_ w4 ⟨rfl, hb⟩
  rw [hl1]
  have P_928 := Aside0.mk (blk_below P_922.out hb)
  have L_929 := Aside0.mk (blk_below L_923.out hb)
  have T_930 := Aside0.mk (blk_below T_924.out hb)
  have Q_931 := Aside0.mk (blk_below Q_925.out hb)
  have S_932 := Aside0.mk (blk_below S_926.out hb)
  have R_933 := Aside0.mk (Kd.R_below R_921.out hb)
  have B934 := Aside0.mk (below_step B927.out hb)
  clear hb P_922 L_923 T_924 Q_925 S_926 R_921 B927
  have L_U := Aside0.mk (show w.heap.size ≤ w4.heap.size from B934.out.size)
  have NE_P_U := Aside0.mk (show w.heap.size ≠ w4.heap.size by have := blk_lt P_928.out; omega)
  have NE_L_U := Aside0.mk (show w.heap.size + 1 ≠ w4.heap.size by have := blk_lt L_929.out; omega)
  have NE_T_U := Aside0.mk (show w1.heap.size ≠ w4.heap.size by have := blk_lt T_930.out; omega)
  have NE_Q_U := Aside0.mk (show w2.heap.size ≠ w4.heap.size by have := blk_lt Q_931.out; omega)
  have NE_S_U := Aside0.mk (show w3.heap.size ≠ w4.heap.size by have := blk_lt S_932.out; omega)
  have P_935 := Aside0.mk (blk_alloc P_928.out (.cells #[.int .i64 0, .int .i64 0, .int .i64 0, .int .i64 0, .int .i64 0, .int .i64 0, .int .i64 0, .int .i64 0, .int .i64 0, .int .i64 0, .int .i64 0, .int .i64 0, .int .i64 0, .int .i64 0, .int .i64 0, .int .i64 0, .int .i64 0, .int .i64 0, .int .i64 0, .int .i64 0, .int .i64 0, .int .i64 0, .int .i64 0, .int .i64 0, .int .i64 0, .int .i64 0, .int .i64 0, .int .i64 0, .int .i64 0, .int .i64 0, .int .i64 0, .int .i64 0, .int .i64 0, .int .i64 0, .int .i64 0, .int .i64 0, .int .i64 0, .int .i64 0, .int .i64 0, .int .i64 0, .int .i64 0, .int .i64 0, .int .i64 0, .int .i64 0, .int .i64 0, .int .i64 0, .int .i64 0, .int .i64 0, .int .i64 0, .int .i64 0, .int .i64 0, .int .i64 0, .int .i64 0, .int .i64 0, .int .i64 0, .int .i64 0, .int .i64 0, .int .i64 0, .int .i64 0, .int .i64 0, .int .i64 0, .int .i64 0, .int .i64 0, .int .i64 0] 51))
  have L_936 := Aside0.mk (blk_alloc L_929.out (.cells #[.int .i64 0, .int .i64 0, .int .i64 0, .int .i64 0, .int .i64 0, .int .i64 0, .int .i64 0, .int .i64 0, .int .i64 0, .int .i64 0, .int .i64 0, .int .i64 0, .int .i64 0, .int .i64 0, .int .i64 0, .int .i64 0, .int .i64 0, .int .i64 0, .int .i64 0, .int .i64 0, .int .i64 0, .int .i64 0, .int .i64 0, .int .i64 0, .int .i64 0, .int .i64 0, .int .i64 0, .int .i64 0, .int .i64 0, .int .i64 0, .int .i64 0, .int .i64 0, .int .i64 0, .int .i64 0, .int .i64 0, .int .i64 0, .int .i64 0, .int .i64 0, .int .i64 0, .int .i64 0, .int .i64 0, .int .i64 0, .int .i64 0, .int .i64 0, .int .i64 0, .int .i64 0, .int .i64 0, .int .i64 0, .int .i64 0, .int .i64 0, .int .i64 0, .int .i64 0, .int .i64 0, .int .i64 0, .int .i64 0, .int .i64 0, .int .i64 0, .int .i64 0, .int .i64 0, .int .i64 0, .int .i64 0, .int .i64 0, .int .i64 0, .int .i64 0] 51))
  have T_937 := Aside0.mk (blk_alloc T_930.out (.cells #[.int .i64 0, .int .i64 0, .int .i64 0, .int .i64 0, .int .i64 0, .int .i64 0, .int .i64 0, .int .i64 0, .int .i64 0, .int .i64 0, .int .i64 0, .int .i64 0, .int .i64 0, .int .i64 0, .int .i64 0, .int .i64 0, .int .i64 0, .int .i64 0, .int .i64 0, .int .i64 0, .int .i64 0, .int .i64 0, .int .i64 0, .int .i64 0, .int .i64 0, .int .i64 0, .int .i64 0, .int .i64 0, .int .i64 0, .int .i64 0, .int .i64 0, .int .i64 0, .int .i64 0, .int .i64 0, .int .i64 0, .int .i64 0, .int .i64 0, .int .i64 0, .int .i64 0, .int .i64 0, .int .i64 0, .int .i64 0, .int .i64 0, .int .i64 0, .int .i64 0, .int .i64 0, .int .i64 0, .int .i64 0, .int .i64 0, .int .i64 0, .int .i64 0, .int .i64 0, .int .i64 0, .int .i64 0, .int .i64 0, .int .i64 0, .int .i64 0, .int .i64 0, .int .i64 0, .int .i64 0, .int .i64 0, .int .i64 0, .int .i64 0, .int .i64 0] 51))
  have Q_938 := Aside0.mk (blk_alloc Q_931.out (.cells #[.int .i64 0, .int .i64 0, .int .i64 0, .int .i64 0, .int .i64 0, .int .i64 0, .int .i64 0, .int .i64 0, .int .i64 0, .int .i64 0, .int .i64 0, .int .i64 0, .int .i64 0, .int .i64 0, .int .i64 0, .int .i64 0, .int .i64 0, .int .i64 0, .int .i64 0, .int .i64 0, .int .i64 0, .int .i64 0, .int .i64 0, .int .i64 0, .int .i64 0, .int .i64 0, .int .i64 0, .int .i64 0, .int .i64 0, .int .i64 0, .int .i64 0, .int .i64 0, .int .i64 0, .int .i64 0, .int .i64 0, .int .i64 0, .int .i64 0, .int .i64 0, .int .i64 0, .int .i64 0, .int .i64 0, .int .i64 0, .int .i64 0, .int .i64 0, .int .i64 0, .int .i64 0, .int .i64 0, .int .i64 0, .int .i64 0, .int .i64 0, .int .i64 0, .int .i64 0, .int .i64 0, .int .i64 0, .int .i64 0, .int .i64 0, .int .i64 0, .int .i64 0, .int .i64 0, .int .i64 0, .int .i64 0, .int .i64 0, .int .i64 0, .int .i64 0] 51))
  have S_939 := Aside0.mk (blk_alloc S_932.out (.cells #[.int .i64 0, .int .i64 0, .int .i64 0, .int .i64 0, .int .i64 0, .int .i64 0, .int .i64 0, .int .i64 0, .int .i64 0, .int .i64 0, .int .i64 0, .int .i64 0, .int .i64 0, .int .i64 0, .int .i64 0, .int .i64 0, .int .i64 0, .int .i64 0, .int .i64 0, .int .i64 0, .int .i64 0, .int .i64 0, .int .i64 0, .int .i64 0, .int .i64 0, .int .i64 0, .int .i64 0, .int .i64 0, .int .i64 0, .int .i64 0, .int .i64 0, .int .i64 0, .int .i64 0, .int .i64 0, .int .i64 0, .int .i64 0, .int .i64 0, .int .i64 0, .int .i64 0, .int .i64 0, .int .i64 0, .int .i64 0, .int .i64 0, .int .i64 0, .int .i64 0, .int .i64 0, .int .i64 0, .int .i64 0, .int .i64 0, .int .i64 0, .int .i64 0, .int .i64 0, .int .i64 0, .int .i64 0, .int .i64 0, .int .i64 0, .int .i64 0, .int .i64 0, .int .i64 0, .int .i64 0, .int .i64 0, .int .i64 0, .int .i64 0, .int .i64 0] 51))
  have U_940 := Aside0.mk (blk_new (w4) (.cells #[.int .i64 0, .int .i64 0, .int .i64 0, .int .i64 0, .int .i64 0, .int .i64 0, .int .i64 0, .int .i64 0, .int .i64 0, .int .i64 0, .int .i64 0, .int .i64 0, .int .i64 0, .int .i64 0, .int .i64 0, .int .i64 0, .int .i64 0, .int .i64 0, .int .i64 0, .int .i64 0, .int .i64 0, .int .i64 0, .int .i64 0, .int .i64 0, .int .i64 0, .int .i64 0, .int .i64 0, .int .i64 0, .int .i64 0, .int .i64 0, .int .i64 0, .int .i64 0, .int .i64 0, .int .i64 0, .int .i64 0, .int .i64 0, .int .i64 0, .int .i64 0, .int .i64 0, .int .i64 0, .int .i64 0, .int .i64 0, .int .i64 0, .int .i64 0, .int .i64 0, .int .i64 0, .int .i64 0, .int .i64 0, .int .i64 0, .int .i64 0, .int .i64 0, .int .i64 0, .int .i64 0, .int .i64 0, .int .i64 0, .int .i64 0, .int .i64 0, .int .i64 0, .int .i64 0, .int .i64 0, .int .i64 0, .int .i64 0, .int .i64 0, .int .i64 0] 51))
  have B941 := Aside0.mk (below_alloc B934.out (.cells #[.int .i64 0, .int .i64 0, .int .i64 0, .int .i64 0, .int .i64 0, .int .i64 0, .int .i64 0, .int .i64 0, .int .i64 0, .int .i64 0, .int .i64 0, .int .i64 0, .int .i64 0, .int .i64 0, .int .i64 0, .int .i64 0, .int .i64 0, .int .i64 0, .int .i64 0, .int .i64 0, .int .i64 0, .int .i64 0, .int .i64 0, .int .i64 0, .int .i64 0, .int .i64 0, .int .i64 0, .int .i64 0, .int .i64 0, .int .i64 0, .int .i64 0, .int .i64 0, .int .i64 0, .int .i64 0, .int .i64 0, .int .i64 0, .int .i64 0, .int .i64 0, .int .i64 0, .int .i64 0, .int .i64 0, .int .i64 0, .int .i64 0, .int .i64 0, .int .i64 0, .int .i64 0, .int .i64 0, .int .i64 0, .int .i64 0, .int .i64 0, .int .i64 0, .int .i64 0, .int .i64 0, .int .i64 0, .int .i64 0, .int .i64 0, .int .i64 0, .int .i64 0, .int .i64 0, .int .i64 0, .int .i64 0, .int .i64 0, .int .i64 0, .int .i64 0] 51))
  clear P_928 L_929 T_930 Q_931 S_932 B934
  have R_942 := Aside0.mk (Kd.R_alloc (R_933.out) (.cells #[.int .i64 0, .int .i64 0, .int .i64 0, .int .i64 0, .int .i64 0, .int .i64 0, .int .i64 0, .int .i64 0, .int .i64 0, .int .i64 0, .int .i64 0, .int .i64 0, .int .i64 0, .int .i64 0, .int .i64 0, .int .i64 0, .int .i64 0, .int .i64 0, .int .i64 0, .int .i64 0, .int .i64 0, .int .i64 0, .int .i64 0, .int .i64 0, .int .i64 0, .int .i64 0, .int .i64 0, .int .i64 0, .int .i64 0, .int .i64 0, .int .i64 0, .int .i64 0, .int .i64 0, .int .i64 0, .int .i64 0, .int .i64 0, .int .i64 0, .int .i64 0, .int .i64 0, .int .i64 0, .int .i64 0, .int .i64 0, .int .i64 0, .int .i64 0, .int .i64 0, .int .i64 0, .int .i64 0, .int .i64 0, .int .i64 0, .int .i64 0, .int .i64 0, .int .i64 0, .int .i64 0, .int .i64 0, .int .i64 0, .int .i64 0, .int .i64 0, .int .i64 0, .int .i64 0, .int .i64 0, .int .i64 0, .int .i64 0, .int .i64 0, .int .i64 0] 51))
  clear R_933
  go_wp2_with (first
    | ((with_reducible refine wpSt 51 (.tmp 5) (.tmp 29) ?_); refine store_whole (w := w) (B := w.heap.size) rfl rfl 51 (.tmp 5) (.tmp 29) rfl (g := w4.heap.size) (cs := TV a) rfl _ rfl rfl (tot51 _ (by first | assumption | (simp [zero64]; done))) (TV_one _) U_940.out (by first | (simp [TV_size, zero64]; done) | (simp [TV_size, zero64]; omega) | (rw [TV_size, TV_size]; simp [zero64]; omega)) L_U.out B941.out ?_; intro w_943 h1 h2 h3 h4; have R_944 := Aside0.mk (row_fars R_942.out U_940.out (by decide) h3); have P_945 := Aside0.mk ((h3 _ NE_P_U.out).trans P_935.out); have L_946 := Aside0.mk ((h3 _ NE_L_U.out).trans L_936.out); have T_947 := Aside0.mk ((h3 _ NE_T_U.out).trans T_937.out); have Q_948 := Aside0.mk ((h3 _ NE_Q_U.out).trans Q_938.out); have S_949 := Aside0.mk ((h3 _ NE_S_U.out).trans S_939.out); have U_950 := Aside0.mk (h1); have B951 := Aside0.mk (h2); clear h1 h2 h3 h4 R_942 P_935 L_936 T_937 Q_938 S_939 U_940 B941)
    | ((with_reducible refine wpLd 51 (.tmp 4) ?_); refine wpList_load_row_g (by rfl) 51 (.tmp 4) rfl (w3.heap.size) rfl 51 (TV s) (0, 0) _ S_949.out Tryd.underlying51 rfl (info51 _ (by first | assumption | (simp; done))) ?_)
    | ((with_reducible refine wpLd 51 (.tmp 2) ?_); refine wpList_load_row_g (by rfl) 51 (.tmp 2) rfl (w1.heap.size) rfl 51 (TV a) (0, 0) _ T_947.out Tryd.underlying51 rfl (info51 _ (by first | assumption | (simp; done))) ?_))
  refine (less_T a s _ hla hls).mono ?_
  rintro e_ w5 ⟨rfl, hb⟩
  rw [hl2, hl3]
  have P_952 := Aside0.mk (blk_below P_945.out hb)
  have L_953 := Aside0.mk (blk_below L_946.out hb)
  have T_954 := Aside0.mk (blk_below T_947.out hb)
  have Q_955 := Aside0.mk (blk_below Q_948.out hb)
  have S_956 := Aside0.mk (blk_below S_949.out hb)
  have U_957 := Aside0.mk (blk_below U_950.out hb)
  have R_958 := Aside0.mk (Kd.R_below R_944.out hb)
  have B959 := Aside0.mk (below_step B951.out hb)
  clear hb P_945 L_946 T_947 Q_948 S_949 U_950 R_944 B951
  have L_Z := Aside0.mk (show w.heap.size ≤ w5.heap.size from B959.out.size)
  have NE_P_Z := Aside0.mk (show w.heap.size ≠ w5.heap.size by have := blk_lt P_952.out; omega)
  have NE_L_Z := Aside0.mk (show w.heap.size + 1 ≠ w5.heap.size by have := blk_lt L_953.out; omega)
  have NE_T_Z := Aside0.mk (show w1.heap.size ≠ w5.heap.size by have := blk_lt T_954.out; omega)
  have NE_Q_Z := Aside0.mk (show w2.heap.size ≠ w5.heap.size by have := blk_lt Q_955.out; omega)
  have NE_S_Z := Aside0.mk (show w3.heap.size ≠ w5.heap.size by have := blk_lt S_956.out; omega)
  have NE_U_Z := Aside0.mk (show w4.heap.size ≠ w5.heap.size by have := blk_lt U_957.out; omega)
  have P_960 := Aside0.mk (blk_alloc P_952.out (.cells #[.int .i64 0, .int .i64 0, .int .i64 0, .int .i64 0, .int .i64 0, .int .i64 0, .int .i64 0, .int .i64 0, .int .i64 0, .int .i64 0, .int .i64 0, .int .i64 0, .int .i64 0, .int .i64 0, .int .i64 0, .int .i64 0, .int .i64 0, .int .i64 0, .int .i64 0, .int .i64 0, .int .i64 0, .int .i64 0, .int .i64 0, .int .i64 0, .int .i64 0, .int .i64 0, .int .i64 0, .int .i64 0, .int .i64 0, .int .i64 0, .int .i64 0, .int .i64 0, .int .i64 0, .int .i64 0, .int .i64 0, .int .i64 0, .int .i64 0, .int .i64 0, .int .i64 0, .int .i64 0, .int .i64 0, .int .i64 0, .int .i64 0, .int .i64 0, .int .i64 0, .int .i64 0, .int .i64 0, .int .i64 0, .int .i64 0, .int .i64 0, .int .i64 0, .int .i64 0, .int .i64 0, .int .i64 0, .int .i64 0, .int .i64 0, .int .i64 0, .int .i64 0, .int .i64 0, .int .i64 0, .int .i64 0, .int .i64 0, .int .i64 0, .int .i64 0] 51))
  have L_961 := Aside0.mk (blk_alloc L_953.out (.cells #[.int .i64 0, .int .i64 0, .int .i64 0, .int .i64 0, .int .i64 0, .int .i64 0, .int .i64 0, .int .i64 0, .int .i64 0, .int .i64 0, .int .i64 0, .int .i64 0, .int .i64 0, .int .i64 0, .int .i64 0, .int .i64 0, .int .i64 0, .int .i64 0, .int .i64 0, .int .i64 0, .int .i64 0, .int .i64 0, .int .i64 0, .int .i64 0, .int .i64 0, .int .i64 0, .int .i64 0, .int .i64 0, .int .i64 0, .int .i64 0, .int .i64 0, .int .i64 0, .int .i64 0, .int .i64 0, .int .i64 0, .int .i64 0, .int .i64 0, .int .i64 0, .int .i64 0, .int .i64 0, .int .i64 0, .int .i64 0, .int .i64 0, .int .i64 0, .int .i64 0, .int .i64 0, .int .i64 0, .int .i64 0, .int .i64 0, .int .i64 0, .int .i64 0, .int .i64 0, .int .i64 0, .int .i64 0, .int .i64 0, .int .i64 0, .int .i64 0, .int .i64 0, .int .i64 0, .int .i64 0, .int .i64 0, .int .i64 0, .int .i64 0, .int .i64 0] 51))
  have T_962 := Aside0.mk (blk_alloc T_954.out (.cells #[.int .i64 0, .int .i64 0, .int .i64 0, .int .i64 0, .int .i64 0, .int .i64 0, .int .i64 0, .int .i64 0, .int .i64 0, .int .i64 0, .int .i64 0, .int .i64 0, .int .i64 0, .int .i64 0, .int .i64 0, .int .i64 0, .int .i64 0, .int .i64 0, .int .i64 0, .int .i64 0, .int .i64 0, .int .i64 0, .int .i64 0, .int .i64 0, .int .i64 0, .int .i64 0, .int .i64 0, .int .i64 0, .int .i64 0, .int .i64 0, .int .i64 0, .int .i64 0, .int .i64 0, .int .i64 0, .int .i64 0, .int .i64 0, .int .i64 0, .int .i64 0, .int .i64 0, .int .i64 0, .int .i64 0, .int .i64 0, .int .i64 0, .int .i64 0, .int .i64 0, .int .i64 0, .int .i64 0, .int .i64 0, .int .i64 0, .int .i64 0, .int .i64 0, .int .i64 0, .int .i64 0, .int .i64 0, .int .i64 0, .int .i64 0, .int .i64 0, .int .i64 0, .int .i64 0, .int .i64 0, .int .i64 0, .int .i64 0, .int .i64 0, .int .i64 0] 51))
  have Q_963 := Aside0.mk (blk_alloc Q_955.out (.cells #[.int .i64 0, .int .i64 0, .int .i64 0, .int .i64 0, .int .i64 0, .int .i64 0, .int .i64 0, .int .i64 0, .int .i64 0, .int .i64 0, .int .i64 0, .int .i64 0, .int .i64 0, .int .i64 0, .int .i64 0, .int .i64 0, .int .i64 0, .int .i64 0, .int .i64 0, .int .i64 0, .int .i64 0, .int .i64 0, .int .i64 0, .int .i64 0, .int .i64 0, .int .i64 0, .int .i64 0, .int .i64 0, .int .i64 0, .int .i64 0, .int .i64 0, .int .i64 0, .int .i64 0, .int .i64 0, .int .i64 0, .int .i64 0, .int .i64 0, .int .i64 0, .int .i64 0, .int .i64 0, .int .i64 0, .int .i64 0, .int .i64 0, .int .i64 0, .int .i64 0, .int .i64 0, .int .i64 0, .int .i64 0, .int .i64 0, .int .i64 0, .int .i64 0, .int .i64 0, .int .i64 0, .int .i64 0, .int .i64 0, .int .i64 0, .int .i64 0, .int .i64 0, .int .i64 0, .int .i64 0, .int .i64 0, .int .i64 0, .int .i64 0, .int .i64 0] 51))
  have S_964 := Aside0.mk (blk_alloc S_956.out (.cells #[.int .i64 0, .int .i64 0, .int .i64 0, .int .i64 0, .int .i64 0, .int .i64 0, .int .i64 0, .int .i64 0, .int .i64 0, .int .i64 0, .int .i64 0, .int .i64 0, .int .i64 0, .int .i64 0, .int .i64 0, .int .i64 0, .int .i64 0, .int .i64 0, .int .i64 0, .int .i64 0, .int .i64 0, .int .i64 0, .int .i64 0, .int .i64 0, .int .i64 0, .int .i64 0, .int .i64 0, .int .i64 0, .int .i64 0, .int .i64 0, .int .i64 0, .int .i64 0, .int .i64 0, .int .i64 0, .int .i64 0, .int .i64 0, .int .i64 0, .int .i64 0, .int .i64 0, .int .i64 0, .int .i64 0, .int .i64 0, .int .i64 0, .int .i64 0, .int .i64 0, .int .i64 0, .int .i64 0, .int .i64 0, .int .i64 0, .int .i64 0, .int .i64 0, .int .i64 0, .int .i64 0, .int .i64 0, .int .i64 0, .int .i64 0, .int .i64 0, .int .i64 0, .int .i64 0, .int .i64 0, .int .i64 0, .int .i64 0, .int .i64 0, .int .i64 0] 51))
  have U_965 := Aside0.mk (blk_alloc U_957.out (.cells #[.int .i64 0, .int .i64 0, .int .i64 0, .int .i64 0, .int .i64 0, .int .i64 0, .int .i64 0, .int .i64 0, .int .i64 0, .int .i64 0, .int .i64 0, .int .i64 0, .int .i64 0, .int .i64 0, .int .i64 0, .int .i64 0, .int .i64 0, .int .i64 0, .int .i64 0, .int .i64 0, .int .i64 0, .int .i64 0, .int .i64 0, .int .i64 0, .int .i64 0, .int .i64 0, .int .i64 0, .int .i64 0, .int .i64 0, .int .i64 0, .int .i64 0, .int .i64 0, .int .i64 0, .int .i64 0, .int .i64 0, .int .i64 0, .int .i64 0, .int .i64 0, .int .i64 0, .int .i64 0, .int .i64 0, .int .i64 0, .int .i64 0, .int .i64 0, .int .i64 0, .int .i64 0, .int .i64 0, .int .i64 0, .int .i64 0, .int .i64 0, .int .i64 0, .int .i64 0, .int .i64 0, .int .i64 0, .int .i64 0, .int .i64 0, .int .i64 0, .int .i64 0, .int .i64 0, .int .i64 0, .int .i64 0, .int .i64 0, .int .i64 0, .int .i64 0] 51))
  have Z_966 := Aside0.mk (blk_new (w5) (.cells #[.int .i64 0, .int .i64 0, .int .i64 0, .int .i64 0, .int .i64 0, .int .i64 0, .int .i64 0, .int .i64 0, .int .i64 0, .int .i64 0, .int .i64 0, .int .i64 0, .int .i64 0, .int .i64 0, .int .i64 0, .int .i64 0, .int .i64 0, .int .i64 0, .int .i64 0, .int .i64 0, .int .i64 0, .int .i64 0, .int .i64 0, .int .i64 0, .int .i64 0, .int .i64 0, .int .i64 0, .int .i64 0, .int .i64 0, .int .i64 0, .int .i64 0, .int .i64 0, .int .i64 0, .int .i64 0, .int .i64 0, .int .i64 0, .int .i64 0, .int .i64 0, .int .i64 0, .int .i64 0, .int .i64 0, .int .i64 0, .int .i64 0, .int .i64 0, .int .i64 0, .int .i64 0, .int .i64 0, .int .i64 0, .int .i64 0, .int .i64 0, .int .i64 0, .int .i64 0, .int .i64 0, .int .i64 0, .int .i64 0, .int .i64 0, .int .i64 0, .int .i64 0, .int .i64 0, .int .i64 0, .int .i64 0, .int .i64 0, .int .i64 0, .int .i64 0] 51))
  have B967 := Aside0.mk (below_alloc B959.out (.cells #[.int .i64 0, .int .i64 0, .int .i64 0, .int .i64 0, .int .i64 0, .int .i64 0, .int .i64 0, .int .i64 0, .int .i64 0, .int .i64 0, .int .i64 0, .int .i64 0, .int .i64 0, .int .i64 0, .int .i64 0, .int .i64 0, .int .i64 0, .int .i64 0, .int .i64 0, .int .i64 0, .int .i64 0, .int .i64 0, .int .i64 0, .int .i64 0, .int .i64 0, .int .i64 0, .int .i64 0, .int .i64 0, .int .i64 0, .int .i64 0, .int .i64 0, .int .i64 0, .int .i64 0, .int .i64 0, .int .i64 0, .int .i64 0, .int .i64 0, .int .i64 0, .int .i64 0, .int .i64 0, .int .i64 0, .int .i64 0, .int .i64 0, .int .i64 0, .int .i64 0, .int .i64 0, .int .i64 0, .int .i64 0, .int .i64 0, .int .i64 0, .int .i64 0, .int .i64 0, .int .i64 0, .int .i64 0, .int .i64 0, .int .i64 0, .int .i64 0, .int .i64 0, .int .i64 0, .int .i64 0, .int .i64 0, .int .i64 0, .int .i64 0, .int .i64 0] 51))
  clear P_952 L_953 T_954 Q_955 S_956 U_957 B959
  have R_968 := Aside0.mk (Kd.R_alloc (R_958.out) (.cells #[.int .i64 0, .int .i64 0, .int .i64 0, .int .i64 0, .int .i64 0, .int .i64 0, .int .i64 0, .int .i64 0, .int .i64 0, .int .i64 0, .int .i64 0, .int .i64 0, .int .i64 0, .int .i64 0, .int .i64 0, .int .i64 0, .int .i64 0, .int .i64 0, .int .i64 0, .int .i64 0, .int .i64 0, .int .i64 0, .int .i64 0, .int .i64 0, .int .i64 0, .int .i64 0, .int .i64 0, .int .i64 0, .int .i64 0, .int .i64 0, .int .i64 0, .int .i64 0, .int .i64 0, .int .i64 0, .int .i64 0, .int .i64 0, .int .i64 0, .int .i64 0, .int .i64 0, .int .i64 0, .int .i64 0, .int .i64 0, .int .i64 0, .int .i64 0, .int .i64 0, .int .i64 0, .int .i64 0, .int .i64 0, .int .i64 0, .int .i64 0, .int .i64 0, .int .i64 0, .int .i64 0, .int .i64 0, .int .i64 0, .int .i64 0, .int .i64 0, .int .i64 0, .int .i64 0, .int .i64 0, .int .i64 0, .int .i64 0, .int .i64 0, .int .i64 0] 51))
  clear R_958
  obtain ⟨AR, cR, eR, -, -⟩ := Kd.R_reads R_968.out
  have eR' : vL = .slice AR 2 cR := eR
  subst eR'
  obtain ⟨pR, eP_, -⟩ := at_s R_968.out rfl 0 (by decide)
  subst eP_
  clear eR
  go_wp2_with (first
    | ((with_reducible refine wpSt 51 (.tmp 7) (.tmp 35) ?_); refine store_whole (w := w) (B := w.heap.size) rfl rfl 51 (.tmp 7) (.tmp 35) rfl (g := w5.heap.size) (cs := TV zero64) rfl _ rfl rfl (tot51 _ (by first | assumption | (simp [zero64]; done))) (TV_one _) Z_966.out (by first | (simp [TV_size, zero64]; done) | (simp [TV_size, zero64]; omega) | (rw [TV_size, TV_size]; simp [zero64]; omega)) L_Z.out B967.out ?_; intro w_969 h1 h2 h3 h4; have R_970 := Aside0.mk (row_fars R_968.out Z_966.out (by decide) h3); have P_971 := Aside0.mk ((h3 _ NE_P_Z.out).trans P_960.out); have L_972 := Aside0.mk ((h3 _ NE_L_Z.out).trans L_961.out); have T_973 := Aside0.mk ((h3 _ NE_T_Z.out).trans T_962.out); have Q_974 := Aside0.mk ((h3 _ NE_Q_Z.out).trans Q_963.out); have S_975 := Aside0.mk ((h3 _ NE_S_Z.out).trans S_964.out); have U_976 := Aside0.mk ((h3 _ NE_U_Z.out).trans U_965.out); have Z_977 := Aside0.mk (h1); have B978 := Aside0.mk (h2); clear h1 h2 h3 h4 R_968 P_960 L_961 T_962 Q_963 S_964 U_965 Z_966 B967; have n0 : w_969.cell? pR = some (.string ⟨#[105, 100, 108, 101, 32, 49]⟩) := at_s' R_970.out rfl 0 (by decide); have n1 : w_969.cell? ⟨pR.block, pR.off + 1, none⟩ = some (.string ⟨#[104, 97, 115, 32, 51, 32, 49, 32, 49, 32, 48, 32, 49, 32, 48, 32, 48]⟩) := at_s' R_970.out rfl 1 (by decide))
    | ((with_reducible refine wpLd 51 (.tmp 5) ?_); refine wpList_load_row_g (by rfl) 51 (.tmp 5) rfl (w4.heap.size) rfl 51 (TV a) (0, 0) _ U_976.out Tryd.underlying51 rfl (info51 _ (by first | assumption | (simp; done))) ?_)
    | ((with_reducible refine wpLd 51 (.tmp 2) ?_); refine wpList_load_row_g (by rfl) 51 (.tmp 2) rfl (w1.heap.size) rfl 51 (TV a) (0, 0) _ T_973.out Tryd.underlying51 rfl (info51 _ (by first | assumption | (simp; done))) ?_)
    | ((with_reducible refine wpBi .eql 51 (.tmp 53) (.tmp 54) 51 ?_); refine wpList_value_g (by rfl) (exec_eq51 (.tmp 53) (.tmp 54) rfl a a rfl rfl hla hla true (decide_eq_true rfl)) ?_)
    | ((with_reducible refine wpLd 51 (.tmp 4) ?_); refine wpList_load_row_g (by rfl) 51 (.tmp 4) rfl (w3.heap.size) rfl 51 (TV s) (0, 0) _ S_975.out Tryd.underlying51 rfl (info51 _ (by first | assumption | (simp; done))) ?_))
  clear n0 n1
  refine (steps_T s _ hls).mono ?_
  rintro e_ w6 ⟨rfl, hb⟩
  rw [hst]
  have P_979 := Aside0.mk (blk_below P_971.out hb)
  have L_980 := Aside0.mk (blk_below L_972.out hb)
  have T_981 := Aside0.mk (blk_below T_973.out hb)
  have Q_982 := Aside0.mk (blk_below Q_974.out hb)
  have S_983 := Aside0.mk (blk_below S_975.out hb)
  have U_984 := Aside0.mk (blk_below U_976.out hb)
  have Z_985 := Aside0.mk (blk_below Z_977.out hb)
  have B986 := Aside0.mk (below_step B978.out hb)
  clear hb P_971 L_972 T_973 Q_974 S_975 U_976 Z_977 B978
  go_wp2_with (first
    | ((with_reducible refine wpLd 51 (.tmp 2) ?_); refine wpList_load_row_g (by rfl) 51 (.tmp 2) rfl (w1.heap.size) rfl 51 (TV a) (0, 0) _ T_981.out Tryd.underlying51 rfl (info51 _ (by first | assumption | (simp; done))) ?_))
  refine (net_T a _ hla).mono ?_
  rintro e_ w7 ⟨rfl, hb⟩
  rw [hnet]
  have P_987 := Aside0.mk (blk_below P_979.out hb)
  have L_988 := Aside0.mk (blk_below L_980.out hb)
  have T_989 := Aside0.mk (blk_below T_981.out hb)
  have Q_990 := Aside0.mk (blk_below Q_982.out hb)
  have S_991 := Aside0.mk (blk_below S_983.out hb)
  have U_992 := Aside0.mk (blk_below U_984.out hb)
  have Z_993 := Aside0.mk (blk_below Z_985.out hb)
  have B994 := Aside0.mk (below_step B986.out hb)
  clear hb P_979 L_980 T_981 Q_982 S_983 U_984 Z_985 B986
  go_wp2_with fail
  go_ret
  exact ⟨rfl, B994.out⟩
end Go.Proofs.YtcncndhoeiaoeaaDoor.PTallyExact

