import Derived.Test.YtinmmnljicmppaaDoorVTaleH
/-
slices.Repeat of one number.
-/
namespace Go.Proofs.YtinmmnljicmppaaDoor.PTaleApart
open Go Go.RowKit Go.Proofs.YtinmmnljicmppaaDoorW.PrintWords Go.Proofs.YtinmmnljicmppaaDoorW.PrintLast Go.Proofs.YtinmmnljicmppaaDoorW.PrintMore Go.Proofs.YtinmmnljicmppaaDoor.Str
attribute [local go_sem] max2_int min2_int max_two min_two max_three min_three max_four min_four
set_option linter.unusedVariables false
set_option linter.unusedSimpArgs false
set_option maxHeartbeats 16000000 in
set_option maxRecDepth 100000 in
theorem repeat_T (x : Int) (n : Nat) (A : Option Addr) (c : Nat) (w : World) (hr : Kd.C (Kd.int .i64) w A 1 [x]) (h1 : 1 ≤ n) (h2 : n ≤ 262144) :
  Calls Tryd.prog 62 #[.slice A 1 c, .int .i64 (n : Int)] w fun e w' => ∃ v, e = .returned v ∧ Kd.R (Kd.int .i64) 3 w' w.heap.size (fun _ => True) v (List.replicate n x) ∧ Below w.heap.size w w' := by
 have hu := Tryd.underlying34
 have HR := Aside0.mk hr
 have HN := Aside0.mk (show 1 ≤ n ∧ n ≤ 262144 from ⟨h1, h2⟩)
 have d0 : decide ((n : Int) < 0) = false := decide_eq_false (by omega)
 have d1 := eq_false (show ¬ (n : Int) < 0 by omega)
 have hw1 : IntKind.u64.wrap (n : Int) = (n : Int) := by unfold IntKind.wrap IntKind.bits; simp [IntKind.signed]; omega
 have hw2 : wrap64 (n : Int) = (n : Int) := by unfold wrap64; omega
 have hw3 : IntKind.i64.wrap (n : Int) = (n : Int) := by unfold IntKind.wrap IntKind.bits; simp [IntKind.signed]; omega
 have d2 : decide ((n : Int) > 9223372036854775807) = false := decide_eq_false (by omega)
 have d3 := eq_false (show ¬ (n : Int) > 9223372036854775807 by omega)
 have d4 := eq_false (show ¬ 9223372036854775807 < n by omega)
 have hm := Tryd.bits_Mul 1 n (by omega) (by omega) w
 rw [show 1 * n / 18446744073709551616 = 0 by omega, show 1 * n % 18446744073709551616 = n by omega] at hm
 clear hr h1 h2
 go_enter Tryd.func62, Tryd.ntmps62
 go_wp2_with fail
 refine hm.mono ?_
 rintro e w1 ⟨rfl, rfl⟩
 clear hm
 go_wp2_with (first
  | ((with_reducible refine gate_dst (N := 30) rfl ?_); refine Kd.R_make (Kd.int .i64) (w0 := w1) w1.heap.size 3 rfl (N := 30) rfl 34 (.tmp 29) (.tmp 29) rfl (n : Int) rfl rfl Tryd.underlying34 (.int .i64 0) 8 (by kernel_rfl) rfl (by decide) (by decide) (0 : Int) (ok := fun _ => True) (okp := fun _ => False) ?hz (fun _ h => h.elim) trivial (by omega) ?hl (Below.refl _ _) (Nat.le_refl _) ?_; (case hz => rfl); (case hl => have := HN.out; omega); intro vN w2 ho hb hg_ hnew_; have O_1 := Aside0.mk ho; have B1 := Aside0.mk hb; have HR2 := Aside0.mk (Kd.C_below HR.out hb); clear ho hb hg_ hnew_ HR)
  | ((with_reducible refine gate_builtin (b := .copy) (xs := #[.tmp 31, .tmp 32]) rfl ?_); refine Kd.R_copy (enc := Value.int .i64) (h1 := fun _ => rfl) (0 : Int) (w0 := w1) w1.heap.size rfl (.tmp 31) (.tmp 32) 34 34 3 rfl Tryd.underlying34 (by kernel_rfl) vN (List.replicate n (0 : Int)) [x] A 1 c (fun _ => True) rfl rfl O_1.out HR2.out B1.out B1.out.size ?_; intro w3 ho hb hg_; have O_2 := Aside0.mk ho; have B2 := Aside0.mk hb; clear ho hb hg_ O_1 B1 HR2; rw [show min 1 (List.replicate n (0 : Int)).length = 1 by have := HN.out; rw [List.length_replicate]; omega]))
 have hO := O_2.out
 have hown := Kd.own_of_R (enc := Value.int .i64) (h1 := fun _ => rfl) hO
 have hxs : ([x].take (min 1 (List.replicate n (0 : Int)).length) ++ (List.replicate n (0 : Int)).drop (min 1 (List.replicate n (0 : Int)).length)) = List.replicate 1 x ++ List.replicate (n - 1) 0 := by
  have := HN.out
  rw [List.length_replicate, show min 1 n = 1 by omega, List.drop_replicate]; rfl
 rw [hxs] at hown
 have hxl : (List.replicate 1 x ++ List.replicate (n - 1) (0 : Int)).length = n := by have := HN.out; simp; omega
 rw [hxl] at hown
 obtain ⟨-, ⟨-, h0⟩ | ⟨g, cap, cur, rfl, hge, hg, hcap, hmax, hsz, htk⟩⟩ := hown
 ·exact absurd h0 (by have := HN.out; omega)
 rw [Nat.mul_one] at htk
 obtain ⟨tail, htl⟩ : ∃ tail, cur.toList.drop n = tail := ⟨_, rfl⟩
 have HCU := Aside0.mk (show cur.toList = fillC x 1 n tail from by rw [← List.take_append_drop n cur.toList, htk, htl]; rfl)
 have HG := Aside0.mk hg
 have HGE := Aside0.mk hge
 have HCAP := Aside0.mk (show n ≤ cap ∧ cap ≤ maxLen ∧ n + tail.length = cap from ⟨hcap, hmax, by
  have h5 : cur.toList.length = cap := by rw [Array.length_toList, hsz, Nat.mul_one]
  rw [← htl, List.length_drop]; omega⟩)
 clear hO hxs hxl htk htl hg hge hcap hmax hsz O_2
 go_loopg [8] (n - 1) (fun kq v8 w' => ∃ (m : Nat) (cu : Array Value), v8 = .int .i64 (m : Int) ∧ Aside0 (1 ≤ m ∧ m + kq = n) ∧ Aside0 (cu.toList = fillC x m n tail) ∧ Aside0 (w'.heap[g]? = some (.cells cu 3 (0, 0))) ∧ Aside0 (Below w1.heap.size w1 w'))
 case atStart => exact ⟨1, cur, rfl, ⟨by have := HN.out; omega⟩, HCU, HG, B2⟩
 case round =>
  clear HCU HG B2
  obtain ⟨m, cu, rfl, HK, HCU, HG, B2⟩ := hrel
  by_cases hi : m < n
  ·have e0 : decide ((m : Int) < (n : Int)) = true := decide_eq_true (by omega)
   have q1 := Aside0.mk hi
   have p0 := eq_true (show (0 : Int) ≤ (m : Int) by omega)
   have p1 := eq_true (show (m : Int) ≤ (n : Int) by omega)
   have p2 := eq_true (show m ≤ n by omega)
   have p3 := eq_true (show m ≤ cap by have := HCAP.out; omega)
   have p4 := eq_true (show (m : Int) ≤ (cap : Int) by have := HCAP.out; omega)
   have p5 := eq_false (show ¬ cap = m by have := HCAP.out; omega)
   have e1 := eq_true hi
   clear hi
   go_wp2_with fail
   refine start_ (n := 10) (S := fun w' => True) (ds := []) #[false, false, false, false, false, false, false, false, false, false] (by kernel_rfl) rfl rfl trivial (fun hHeld => ?_)
   refine pure_ (i := 0) (N := some 38) (v := ?_) (a' := ?_) #[true, false, false, false, false, false, false, false, false, false] rfl rfl (by kernel_rfl) (fun _ _ _ h => h) (Or.inl ⟨by rfl, ?_⟩) ?_ ?_
   rotate_left
   ·intro w'
    go_simp
    with_reducible rfl
   rotate_left
   ·simp only [Act.put, List.setIfInBounds_toArray, List.set_cons_zero, List.set_cons_succ, i64_w, i32_w]
    rfl
   refine pure_ (i := 1) (N := some 39) (v := ?_) (a' := ?_) #[true, true, false, false, false, false, false, false, false, false] rfl rfl (by kernel_rfl) (fun _ _ _ h => h) (Or.inl ⟨by rfl, ?_⟩) ?_ ?_
   rotate_left
   ·intro w'
    go_simp
    with_reducible rfl
   rotate_left
   ·simp only [Act.put, List.setIfInBounds_toArray, List.set_cons_zero, List.set_cons_succ, i64_w, i32_w]
    rfl
   refine pure_ (i := 2) (N := some 40) (v := ?_) (a' := ?_) #[true, true, true, false, false, false, false, false, false, false] rfl rfl (by kernel_rfl) (fun _ _ _ h => h) (Or.inl ⟨by rfl, ?_⟩) ?_ ?_
   rotate_left
   ·intro w'
    go_simp
    with_reducible rfl
   rotate_left
   ·simp only [Act.put, List.setIfInBounds_toArray, List.set_cons_zero, List.set_cons_succ, i64_w, i32_w]
    rfl
   refine pure_ (i := 3) (N := some 41) (v := ?_) (a' := ?_) #[true, true, true, true, false, false, false, false, false, false] rfl rfl (by kernel_rfl) (fun _ _ _ h => h) (Or.inl ⟨by rfl, ?_⟩) ?_ ?_
   rotate_left
   ·intro w'
    go_simp
    with_reducible rfl
   rotate_left
   ·simp only [Act.put, List.setIfInBounds_toArray, List.set_cons_zero, List.set_cons_succ, i64_w, i32_w]
    rfl
   refine pure_ (i := 4) (N := some 42) (v := ?_) (a' := ?_) #[true, true, true, true, true, false, false, false, false, false] rfl rfl (by kernel_rfl) (fun _ _ _ h => h) (Or.inl ⟨by rfl, ?_⟩) ?_ ?_
   rotate_left
   ·intro w'
    go_simp
    with_reducible rfl
   rotate_left
   ·simp only [Act.put, List.setIfInBounds_toArray, List.set_cons_zero, List.set_cons_succ, i64_w, i32_w]
    rfl
   refine pure_ (i := 5) (N := some 43) (v := ?_) (a' := ?_) #[true, true, true, true, true, true, false, false, false, false] rfl rfl (by kernel_rfl) (fun _ _ _ h => h) (Or.inl ⟨by rfl, ?_⟩) ?_ ?_
   rotate_left
   ·intro w'
    go_simp
    with_reducible rfl
   rotate_left
   ·simp only [Act.put, List.setIfInBounds_toArray, List.set_cons_zero, List.set_cons_succ, i64_w, i32_w]
    rfl
   refine pure_ (i := 6) (N := some 44) (v := ?_) (a' := ?_) #[true, true, true, true, true, true, true, false, false, false] rfl rfl (by kernel_rfl) (fun _ _ _ h => h) (Or.inl ⟨by rfl, ?_⟩) ?_ ?_
   rotate_left
   ·intro w'
    go_simp
    with_reducible rfl
   rotate_left
   ·simp only [Act.put, List.setIfInBounds_toArray, List.set_cons_zero, List.set_cons_succ, i64_w, i32_w]
    rfl
   refine one_ (i := 7) (N := some 45) #[true, true, true, true, true, true, true, true, false, false] rfl rfl (by kernel_rfl) (by decide) (fun K hK => ?_)
   refine event_step ?hw (v := .int .i64 ((min m (n - m) : Nat) : Int)) (w1 := wr.drew.setRow g (fillC x (m + min m (n - m)) n tail).toArray) ?hr ?_; (case hw => rfl); (case hr => exact exec_copy1 (.tmp 41) (.tmp 44) rfl (by have := HK.out; omega) (by have := HK.out; omega) rfl rfl HCU.out (blk_drew HG.out))
   refine hK.out _ _ trivial (fun hHeld => ?_)
   clear hK K
   refine norm_ (a' := ?_) ?_ ?_
   rotate_left
   ·show Act.put _ (some 45) _ = _
    simp only [Act.put, List.setIfInBounds_toArray, List.set_cons_zero, List.set_cons_succ, i64_w, i32_w]
    rfl
   refine pure_ (i := 8) (N := some 46) (v := ?_) (a' := ?_) #[true, true, true, true, true, true, true, true, true, false] rfl rfl (by kernel_rfl) (fun _ _ _ h => h) (Or.inl ⟨by rfl, ?_⟩) ?_ ?_
   rotate_left
   ·intro w'
    go_simp
    with_reducible rfl
   rotate_left
   ·simp only [Act.put, List.setIfInBounds_toArray, List.set_cons_zero, List.set_cons_succ, i64_w, i32_w]
    rfl
   refine pure_ (i := 9) (N := some 8) (v := ?_) (a' := ?_) #[true, true, true, true, true, true, true, true, true, true] rfl rfl (by kernel_rfl) (fun _ _ _ h => h) (Or.inl ⟨by rfl, ?_⟩) ?_ ?_
   rotate_left
   ·intro w'
    go_simp
    with_reducible rfl
   rotate_left
   ·simp only [Act.put, List.setIfInBounds_toArray, List.set_cons_zero, List.set_cons_succ, i64_w, i32_w]
    rfl
   refine done_ (by kernel_rfl) ?_
   go_wp2_with fail
   have hk := q1.out
   have hw9 : wrap64 ((m : Int) + ((min m (n - m) : Nat) : Int)) = ((m + min m (n - m) : Nat) : Int) := by have := HN.out; unfold wrap64; omega
   go_roundg (n - (m + min m (n - m)))
   case rel => exact ⟨m + min m (n - m), (fillC x (m + min m (n - m)) n tail).toArray, by first | rfl | rw [hw9], ⟨by have := HK.out; omega⟩, ⟨rfl⟩, ⟨setRow_heap _ _ _ _ _ _ (blk_drew HG.out)⟩, ⟨below_setR (below_drew B2.out) HGE.out _⟩⟩
   case measure => have := HK.out; omega
  ·have e0 : decide ((m : Int) < (n : Int)) = false := decide_eq_false (by omega)
   obtain rfl : m = n := by have := HK.out; omega
   have e1 := eq_true hi
   clear hi
   go_wp2_with fail
   go_ret
   refine ⟨_, rfl, ?_, B2.out⟩
   have hcu := HCU.out
   refine ⟨fun _ _ => trivial, ci (List.replicate m x), ?_, ⟨by simp [ci, Kd.int, Kd.scalar], fun j p hj => ?_⟩⟩
   rw [List.length_replicate]
   refine ⟨by show (ci (List.replicate m x)).length = m * 1; simp [ci], .inr ⟨g, cap, cu, rfl, HGE.out, HG.out, HCAP.out.1, HCAP.out.2.1, ?_, ?_⟩⟩
   ·have h5 := fill_len x m m tail (Nat.le_refl _)
    rw [← hcu, Array.length_toList] at h5
    have := HCAP.out.2.2
    show cu.size = cap * 1
    omega
   ·rw [hcu]
    unfold fillC
    rw [Nat.sub_self, List.replicate_zero, List.append_nil]
    show (ci (List.replicate m x) ++ tail).take (m * 1) = _
    rw [Nat.mul_one, List.take_append_of_le_length (by simp [ci]), List.take_of_length_le (by simp [ci])]
   ·have hj2 : (ci (List.replicate m x))[j]? = some (.int .i64 p) := by unfold ci; rw [List.getElem?_map, hj]; rfl
    show ((ci (List.replicate m x)).drop (j * 1)).take 1 = [.int .i64 p]
    obtain ⟨hlt, e⟩ := List.getElem?_eq_some_iff.1 hj2
    rw [Nat.mul_one, List.drop_eq_getElem_cons hlt, e]
    rfl
end Go.Proofs.YtinmmnljicmppaaDoor.PTaleApart
namespace Go.Proofs.YtinmmnljicmppaaDoor.PTaleApart
open Go Go.RowKit Go.Proofs.YtinmmnljicmppaaDoorW.PrintWords Go.Proofs.YtinmmnljicmppaaDoorW.PrintLast Go.Proofs.YtinmmnljicmppaaDoorW.PrintMore Go.Proofs.YtinmmnljicmppaaDoor.Str
set_option linter.unusedVariables false
set_option linter.unusedSimpArgs false
def slices_Repeat.f (l : List Int) (n : Int) : Option (List Int) := if l.length = 1 ∧ 1 ≤ n ∧ n ≤ 262144 then some (List.replicate n.toNat (l.getD 0 0)) else none
theorem slices_Repeat.calls (A0 : Option Addr) (c0 : Nat) (l0 : List Int) (a1 : Int) (r : List Int) (w : World) (hr0 : Kd.C (Kd.int .i64) w A0 l0.length l0) (hc0 : l0.length ≤ c0) (h : slices_Repeat.f l0 a1 = some r) :
  Calls Tryd.prog 62 #[.slice A0 l0.length c0, .int .i64 a1] w fun e w' => ∃ v0_ : Value, e = .returned (v0_) ∧ Kd.R (Kd.int .i64) 3 w' w.heap.size (fun _ => True) v0_ r ∧ Below w.heap.size w w' := by
 unfold slices_Repeat.f at h
 by_cases hw : l0.length = 1 ∧ 1 ≤ a1 ∧ a1 ≤ 262144
 ·rw [if_pos hw] at h
  obtain rfl := Option.some.inj h
  obtain ⟨h1, h2, h3⟩ := hw
  obtain ⟨x, rfl⟩ : ∃ x, l0 = [x] := by
   match l0, h1 with
   | [x], _ => exact ⟨x, rfl⟩
  obtain ⟨n, rfl⟩ := Int.eq_ofNat_of_zero_le (show 0 ≤ a1 by omega)
  exact repeat_T x n A0 c0 w hr0 (by omega) (by omega)
 ·rw [if_neg hw] at h
  cases h
end Go.Proofs.YtinmmnljicmppaaDoor.PTaleApart
