import Derived.Test.YtinmmnljicmppaaDoorVTaleB
import Derived.Test.YtinmmnljicmppaaDoorVPTaleApartx0
/- Words of this proof. -/
namespace Go.Proofs.YtinmmnljicmppaaDoor.PTaleApart
open Go.RowKit Go.Proofs.YtinmmnljicmppaaDoorW.PrintWords Go.Proofs.YtinmmnljicmppaaDoorW.PrintLast Go.Proofs.YtinmmnljicmppaaDoorW.PrintMore Go.Proofs.YtinmmnljicmppaaDoor.Str
attribute [local go_sem] max2_int min2_int max_two min_two max_three min_three max_four min_four
set_option linter.unusedVariables false
set_option linter.unusedSimpArgs false
def tale_Tell.j0 : Nat → ByteArray → Int → Bool → Int → Option (ByteArray)
 | 0, _, _, _, _ => none
 | k + 1, x3, x123000, x123001, x123002 => if x123002 = 0 then (some x3) else ((tale_num.f x123002).bind fun t128 => ((tale_join.f (([x3, t128] : List ByteArray))).bind fun t132 => (some t132)))
def tale_Tell.f (k : Nat) (a0_0 : Int) (a0_1 : Bool) (a0_2 : Int) : Option (ByteArray) := if a0_0 = 6 then (some (⟨#[102, 117, 108, 108]⟩ : ByteArray)) else (if a0_0 = 7 then (some (⟨#[101, 112, 111, 99, 104]⟩ : ByteArray)) else (if a0_0 = 0 then (if a0_1 = true then (tale_Tell.j0 k (⟨#[121, 101, 115]⟩ : ByteArray) a0_0 a0_1 a0_2) else (tale_Tell.j0 k (⟨#[110, 111]⟩ : ByteArray) a0_0 a0_1 a0_2)) else ((itoaG.f a0_0).bind fun t123 => ((tale_join.f (([(⟨#[101, 114, 114, 111, 114]⟩ : ByteArray), t123] : List ByteArray))).bind fun t127 => (some t127)))))
theorem tale_Tell.mono_l : ∀ k, (∀ y0 y1 y2 y3, LeO (tale_Tell.j0 k y0 y1 y2 y3) (tale_Tell.j0 (k + 1) y0 y1 y2 y3))
 | 0 => fun _ _ _ _ r h => by simp [tale_Tell.j0] at h
 | k + 1 => by
  have ih0 := tale_Tell.mono_l k
  ·intro y0 y1 y2 y3
   unfold tale_Tell.j0
   repeat' first
   | (with_reducible exact ih0 _ _ _ _)
   | (with_reducible exact LeO.refl _)
   | (with_reducible exact LeO.none _)
   | (with_reducible refine LeO.ite ?_ ?_)
   | (with_reducible refine LeO.bind ?_ (fun _ => ?_))
   | exact ih0 _ _ _ _
   | exact LeO.none _
   | refine LeO.ite ?_ ?_
   | refine LeO.bind ?_ (fun _ => ?_)
theorem tale_Tell.mono : ∀ a0 a1 a2 k, LeO (tale_Tell.f k a0 a1 a2) (tale_Tell.f (k + 1) a0 a1 a2) := by
 intro a0 a1 a2 k
 have ih0 := tale_Tell.mono_l k
 unfold tale_Tell.f
 repeat' first
   | (with_reducible exact ih0 _ _ _ _)
   | (with_reducible exact LeO.refl _)
   | (with_reducible exact LeO.none _)
   | (with_reducible refine LeO.ite ?_ ?_)
   | (with_reducible refine LeO.bind ?_ (fun _ => ?_))
   | exact ih0 _ _ _ _
   | exact LeO.none _
   | refine LeO.ite ?_ ?_
   | refine LeO.bind ?_ (fun _ => ?_)
set_option maxHeartbeats 8000000 in
set_option maxRecDepth 100000 in
theorem tale_Tell.calls (k : Nat) (a0_0 : Int) (a0_1 : Bool) (a0_2 : Int) (r : ByteArray) (w : World) (h : tale_Tell.f k a0_0 a0_1 a0_2 = some r) {w0 : World} (ht0 : WT w0) (hb0 : Below w0.heap.size w0 w) :
  Calls Tryd.prog 7 #[.agg #[.int .i64 a0_0, .bool a0_1, .int .u64 a0_2]] w fun e w' => e = .returned (.string r) ∧ Below w.heap.size w w' := by
 have hu25 := Tryd.underlying25
 have HTT := Aside0.mk (WT.below ht0 hb0)
 clear ht0 hb0
 have HB := Aside0.mk (Below.refl w.heap.size w)
 have H : (if a0_0 = 6 then (some (⟨#[102, 117, 108, 108]⟩ : ByteArray)) else (if a0_0 = 7 then (some (⟨#[101, 112, 111, 99, 104]⟩ : ByteArray)) else (if a0_0 = 0 then (if a0_1 = true then (tale_Tell.j0 k (⟨#[121, 101, 115]⟩ : ByteArray) a0_0 a0_1 a0_2) else (tale_Tell.j0 k (⟨#[110, 111]⟩ : ByteArray) a0_0 a0_1 a0_2)) else ((itoaG.f a0_0).bind fun t123 => ((tale_join.f (([(⟨#[101, 114, 114, 111, 114]⟩ : ByteArray), t123] : List ByteArray))).bind fun t127 => (some t127)))))) = some r := h
 clear h
 by_cases c2 : a0_0 = 6
 ·rw [if_pos c2] at H
  have c2b0 : (a0_0 == 6) = true := beq_iff_eq.mpr c2
  have c2b1 : (a0_0 != 6) = false := bne_eq_false_iff_eq.mpr c2
  clear c2
  obtain rfl := Option.some.inj H
  go_enter Tryd.func7, Tryd.ntmps7
  go_wp2_with (first | ((with_reducible refine gate_dst (N := 1) rfl ?_); refine box_event ?hg (N := 1) ?hd (cs := #[.int .i64 a0_0, .bool a0_1, .int .u64 a0_2]) (t := 25) ?hr ?_; (case hd => rfl); (case hg => rfl); (case hr => first | (go_simp; done) | (go_simp; rfl)); intro gb122 hg w3 hbox hb; have n0_ := Aside0.mk (below_step (upB HB.out) hb); have n1_ := Aside0.mk (hbox); have n2_ := Aside0.mk ((by rw [hg]; exact (below_size (upB HB.out)) : w.heap.size ≤ gb122)); have n3_ := Aside0.mk ((by rw [hg]; exact (below_size (upB HB.out)) : w.heap.size ≤ gb122)); clear HB; have HB := n0_; have BK122 := n1_; have GW122 := n2_; have GE122 := n3_; clear n0_ n1_ n2_ n3_; clear hb hbox hg; have hcz4_0 : w3.cell? ⟨gb122, 0, none⟩ = some (.int .i64 a0_0) := (blk_cell BK122.out 0).trans rfl; have hcz4_1 : w3.cell? ⟨gb122, 1, none⟩ = some (.bool a0_1) := (blk_cell BK122.out 1).trans rfl; have hcz4_2 : w3.cell? ⟨gb122, 2, none⟩ = some (.int .u64 a0_2) := (blk_cell BK122.out 2).trans rfl; have hfz4_0 := blk_frozen BK122.out 0; have hfz4_1 := blk_frozen BK122.out 1; have hfz4_2 := blk_frozen BK122.out 2))
  go_ret
  exact ⟨by first | rfl | (simp [errW_none, errW_some] <;> rfl) | (simp [*, errW_none, errW_some] <;> rfl), upB HB.out⟩
 ·rw [if_neg c2] at H
  have c2b0 : (a0_0 == 6) = false := beq_eq_false_iff_ne.mpr c2
  have c2b1 : (a0_0 != 6) = true := bne_iff_ne.mpr c2
  by_cases c5 : a0_0 = 7
  ·rw [if_pos c5] at H
   have c5b0 : (a0_0 == 7) = true := beq_iff_eq.mpr c5
   have c5b1 : (a0_0 != 7) = false := bne_eq_false_iff_eq.mpr c5
   clear c5
   obtain rfl := Option.some.inj H
   go_enter Tryd.func7, Tryd.ntmps7
   go_wp2_with (first | ((with_reducible refine gate_dst (N := 1) rfl ?_); refine box_event ?hg (N := 1) ?hd (cs := #[.int .i64 a0_0, .bool a0_1, .int .u64 a0_2]) (t := 25) ?hr ?_; (case hd => rfl); (case hg => rfl); (case hr => first | (go_simp; done) | (go_simp; rfl)); intro gb122 hg w6 hbox hb; have n0_ := Aside0.mk (below_step (upB HB.out) hb); have n1_ := Aside0.mk (hbox); have n2_ := Aside0.mk ((by rw [hg]; exact (below_size (upB HB.out)) : w.heap.size ≤ gb122)); have n3_ := Aside0.mk ((by rw [hg]; exact (below_size (upB HB.out)) : w.heap.size ≤ gb122)); clear HB; have HB := n0_; have BK122 := n1_; have GW122 := n2_; have GE122 := n3_; clear n0_ n1_ n2_ n3_; clear hb hbox hg; have hcz7_0 : w6.cell? ⟨gb122, 0, none⟩ = some (.int .i64 a0_0) := (blk_cell BK122.out 0).trans rfl; have hcz7_1 : w6.cell? ⟨gb122, 1, none⟩ = some (.bool a0_1) := (blk_cell BK122.out 1).trans rfl; have hcz7_2 : w6.cell? ⟨gb122, 2, none⟩ = some (.int .u64 a0_2) := (blk_cell BK122.out 2).trans rfl; have hfz7_0 := blk_frozen BK122.out 0; have hfz7_1 := blk_frozen BK122.out 1; have hfz7_2 := blk_frozen BK122.out 2))
   go_ret
   exact ⟨by first | rfl | (simp [errW_none, errW_some] <;> rfl) | (simp [*, errW_none, errW_some] <;> rfl), upB HB.out⟩
  ·rw [if_neg c5] at H
   have c5b0 : (a0_0 == 7) = false := beq_eq_false_iff_ne.mpr c5
   have c5b1 : (a0_0 != 7) = true := bne_iff_ne.mpr c5
   by_cases c8 : a0_0 = 0
   ·rw [if_pos c8] at H
    have c8b0 : (a0_0 == 0) = true := beq_iff_eq.mpr c8
    have c8b1 : (a0_0 != 0) = false := bne_eq_false_iff_eq.mpr c8
    clear c8
    have HC9 := Aside0.mk H
    clear H
    go_enter Tryd.func7, Tryd.ntmps7
    go_upto_if 22 with (first | ((with_reducible refine gate_dst (N := 1) rfl ?_); refine box_event ?hg (N := 1) ?hd (cs := #[.int .i64 a0_0, .bool a0_1, .int .u64 a0_2]) (t := 25) ?hr ?_; (case hd => rfl); (case hg => rfl); (case hr => first | (go_simp; done) | (go_simp; rfl)); intro gb122 hg w10 hbox hb; have n0_ := Aside0.mk (below_step (upB HB.out) hb); have n1_ := Aside0.mk (hbox); have n2_ := Aside0.mk ((by rw [hg]; exact (below_size (upB HB.out)) : w.heap.size ≤ gb122)); have n3_ := Aside0.mk ((by rw [hg]; exact (below_size (upB HB.out)) : w.heap.size ≤ gb122)); clear HB; have HB := n0_; have BK122 := n1_; have GW122 := n2_; have GE122 := n3_; clear n0_ n1_ n2_ n3_; clear hb hbox hg; have hcz11_0 : w10.cell? ⟨gb122, 0, none⟩ = some (.int .i64 a0_0) := (blk_cell BK122.out 0).trans rfl; have hcz11_1 : w10.cell? ⟨gb122, 1, none⟩ = some (.bool a0_1) := (blk_cell BK122.out 1).trans rfl; have hcz11_2 : w10.cell? ⟨gb122, 2, none⟩ = some (.int .u64 a0_2) := (blk_cell BK122.out 2).trans rfl; have hfz11_0 := blk_frozen BK122.out 0; have hfz11_1 := blk_frozen BK122.out 1; have hfz11_2 := blk_frozen BK122.out 2))
    (try simp only [Act.put, List.setIfInBounds_toArray, List.set_cons_zero, List.set_cons_succ])
    go_cut [3] (fun v3 wc => ∃ (kq : Nat) (x3_8 : ByteArray), v3 = .string x3_8 ∧ Aside0 (tale_Tell.j0 kq x3_8 a0_0 a0_1 a0_2 = some r) ∧ Aside0 (kq ≤ k) ∧ Aside0 (wc.heap[gb122]? = some (.cells #[.int .i64 a0_0, .bool a0_1, .int .u64 a0_2] 25 (0, 0))) ∧ Aside0 (Below w.heap.size w wc))
    case first =>
     have H := HC9.out
     clear HC9
     by_cases c12 : a0_1 = true
     ·subst c12
      have H1 : (tale_Tell.j0 k (⟨#[121, 101, 115]⟩ : ByteArray) a0_0 true a0_2) = some r := by rw [if_pos rfl] at H; exact H
      clear H
      have H := H1
      clear H1
      have H' := Aside0.mk H
      clear H
      go_wp2
      go_meet
      case rel => exact ⟨_, ((⟨#[121, 101, 115]⟩ : ByteArray)), (by first | rfl | (simp; done) | (simp [*]; done)), H', ⟨by first | omega | exact Nat.le_refl _⟩, ⟨up BK122.out⟩, ⟨upB HB.out⟩⟩
     ·replace c12 := Bool.eq_false_iff.mpr c12
      subst c12
      have H1 : (tale_Tell.j0 k (⟨#[110, 111]⟩ : ByteArray) a0_0 false a0_2) = some r := by rw [if_neg (show ¬ (false = true) by decide)] at H; exact H
      clear H
      have H := H1
      clear H1
      have H' := Aside0.mk H
      clear H
      go_wp2
      go_meet
      case rel => exact ⟨_, ((⟨#[110, 111]⟩ : ByteArray)), (by first | rfl | (simp; done) | (simp [*]; done)), H', ⟨by first | omega | exact Nat.le_refl _⟩, ⟨up BK122.out⟩, ⟨upB HB.out⟩⟩
    case rest =>
     clear HC9
     try clear c1
     try clear c2
     try clear c2b0
     try clear c2b1
     try clear p2
     try clear c5
     try clear c5b0
     try clear c5b1
     try clear c7
     try clear c8
     try clear c8b0
     try clear c8b1
     try clear c12
     try clear hcz11_0
     try clear hcz11_1
     try clear hcz11_2
     try clear hcz4_0
     try clear hcz4_1
     try clear hcz4_2
     try clear hcz7_0
     try clear hcz7_1
     try clear hcz7_2
     try clear hfz11_0
     try clear hfz11_1
     try clear hfz11_2
     try clear hfz4_0
     try clear hfz4_1
     try clear hfz4_2
     try clear hfz7_0
     try clear hfz7_1
     try clear hfz7_2
     obtain ⟨kq, x3_8, rfl, HA, HJ8, BK122, HB⟩ := hcut
     cases kq with
     | zero => exact absurd HA.out (by simp [tale_Tell.j0])
     | succ kj8 =>
      have H := HA.out
      clear HA
      simp only [tale_Tell.j0] at H
      by_cases c13 : a0_2 = 0
      ·rw [if_pos c13] at H
       have c13b0 : (a0_2 == 0) = true := beq_iff_eq.mpr c13
       have c13b1 : (a0_2 != 0) = false := bne_eq_false_iff_eq.mpr c13
       clear c13
       obtain rfl := Option.some.inj H
       have hcz14_0 : wc.cell? ⟨gb122, 0, none⟩ = some (.int .i64 a0_0) := (blk_cell BK122.out 0).trans rfl
       have hcz14_1 : wc.cell? ⟨gb122, 1, none⟩ = some (.bool a0_1) := (blk_cell BK122.out 1).trans rfl
       have hcz14_2 : wc.cell? ⟨gb122, 2, none⟩ = some (.int .u64 a0_2) := (blk_cell BK122.out 2).trans rfl
       have hfz14_0 := blk_frozen BK122.out 0
       have hfz14_1 := blk_frozen BK122.out 1
       have hfz14_2 := blk_frozen BK122.out 2
       go_wp2
       go_ret
       exact ⟨by first | rfl | (simp [errW_none, errW_some] <;> rfl) | (simp [*, errW_none, errW_some] <;> rfl), upB HB.out⟩
      ·rw [if_neg c13] at H
       have c13b0 : (a0_2 == 0) = false := beq_eq_false_iff_ne.mpr c13
       have c13b1 : (a0_2 != 0) = true := bne_iff_ne.mpr c13
       replace H := Option.bind_eq_some_iff.mp H
       obtain ⟨t128, A150, H⟩ := H
       replace H : ((tale_join.f (([x3_8, t128] : List ByteArray))).bind fun t132 => (some t132)) = some r := H
       have A15 := Aside0.mk A150
       clear A150
       obtain ⟨y129, hy129⟩ : ∃ y_ : List ByteArray, y_ = (([x3_8, t128] : List ByteArray)) := ⟨_, rfl⟩
       replace H : ((tale_join.f y129).bind fun t132 => (some t132)) = some r := by first | (rw [hy129]; with_reducible exact H) | (have H2_ := (Option.bind_some _ _).symm.trans H; rw [hy129]; with_reducible exact H2_) | (have H2_ := (Option.bind_some _ _).symm.trans H; with_reducible exact H2_) | with_reducible exact H | (rw [hy129]; exact H) | exact H
       have Ny129 := Aside0.mk hy129
       clear hy129
       replace H := Option.bind_eq_some_iff.mp H
       obtain ⟨t132, A160, H⟩ := H
       replace H : (some t132) = some r := H
       have A16 := Aside0.mk A160
       clear A160
       obtain rfl := Option.some.inj H
       have hcz17_0 : wc.cell? ⟨gb122, 0, none⟩ = some (.int .i64 a0_0) := (blk_cell BK122.out 0).trans rfl
       have hcz17_1 : wc.cell? ⟨gb122, 1, none⟩ = some (.bool a0_1) := (blk_cell BK122.out 1).trans rfl
       have hcz17_2 : wc.cell? ⟨gb122, 2, none⟩ = some (.int .u64 a0_2) := (blk_cell BK122.out 2).trans rfl
       have hfz17_0 := blk_frozen BK122.out 0
       have hfz17_1 := blk_frozen BK122.out 1
       have hfz17_2 := blk_frozen BK122.out 2
       go_wp2_with (first | ((with_reducible refine gate_callee (f := 18) rfl ?_); refine goesL_ (some 29) rfl rfl Tryd.func18 (by kernel_rfl) rfl #[.int .u64 a0_2] rfl (by (try simp only [List.map_toArray, List.map_cons, List.map_nil]); first | done | rfl | (simp only [List.length_drop, List.length_take]; rfl)) ?_; (with_reducible refine (tale_num.calls a0_2 t128 _ A15.out HTT.out (upB HB.out)).mono ?_); rintro e w18 ⟨rfl, hb⟩; refine ⟨_, rfl, ?_⟩; have n0_ := Aside0.mk (blk_below (g := gb122) (o := .cells #[.int .i64 a0_0, .bool a0_1, .int .u64 a0_2] 25 (0, 0)) (up BK122.out) hb); have n1_ := Aside0.mk (below_step (upB HB.out) hb); clear BK122; clear HB; have BK122 := n0_; have HB := n1_; clear n0_ n1_; (try clear hb); (try clear hb2); (try clear hk); (try clear hi)) | ((with_reducible refine gate_dst (N := 30) rfl ?_); refine Kd.R_lit Kd.string _ 9 ?hg (N := 30) ?hd (xs := ([x3_8, t128] : List ByteArray)) (inner := [.string x3_8, .string t128]) (ok := fun _ => True) (okp := fun _ => True) ?hr ?hp (fun _ hk => hk) trivial (Below.refl _ _) (Nat.le_refl _) (by simp) ?_; (case hd => rfl); (case hg => rfl); (case hr => first | (go_simp; done) | (go_simp; rfl)); (case hp => exact (Reps.one (show Kd.M Kd.string _ _ _ x3_8 [.string x3_8] from rfl) (Reps.one (show Kd.M Kd.string _ _ _ t128 [.string t128] from rfl) (Reps.none _ _)))); intro v130 w19 ho20 hb hg_ hnew_; clear hg_ hnew_; (first | rw [← Ny129.out] at ho20 | (simp only [Int.reduceToNat] at ho20; rw [← Ny129.out] at ho20)); have n0_ := Aside0.mk (Kd.R_lower ho20 (below_size (upB HB.out))); have n1_ := Aside0.mk (blk_below (g := gb122) (o := .cells #[.int .i64 a0_0, .bool a0_1, .int .u64 a0_2] 25 (0, 0)) (up BK122.out) hb); have n2_ := Aside0.mk (below_step (upB HB.out) hb); clear BK122; clear HB; have HO131 := n0_; have BK122 := n1_; have HB := n2_; clear n0_ n1_ n2_; clear hb ho20; obtain ⟨Ao21, co21, eo21⟩ := Kd.R_slice HO131.out; subst eo21) | ((with_reducible refine gate_callee (f := 16) rfl ?_); refine goesL_ (some 31) rfl rfl Tryd.func16 (by kernel_rfl) rfl #[.slice Ao21 y129.length co21] rfl (by (try simp only [List.map_toArray, List.map_cons, List.map_nil]); first | done | rfl | (simp only [List.length_drop, List.length_take]; rfl)) ?_; (with_reducible refine (tale_join.calls _ _ y129 t132 _ ?side1 ?side2 A16.out).mono ?_); (case side1 => repeat (first | exact (Kd.R_reads' HO131.out).2.2 | (with_reducible refine Kd.C_alloc ?_ _) | (with_reducible refine Kd.C_drewN ?_ _) | (with_reducible refine Kd.C_drew ?_))); (case side2 => exact (Kd.R_reads' HO131.out).2.1); rintro e w22 ⟨rfl, hb⟩; refine ⟨_, rfl, ?_⟩; have n0_ := Aside0.mk (Kd.R_below (by (with_reducible repeat (first | apply Kd.R_alloc | apply Kd.R_drewN | apply Kd.R_drew)); exact HO131.out) hb); have n1_ := Aside0.mk (blk_below (g := gb122) (o := .cells #[.int .i64 a0_0, .bool a0_1, .int .u64 a0_2] 25 (0, 0)) (up BK122.out) hb); have n2_ := Aside0.mk (below_step (upB HB.out) hb); clear HO131; clear BK122; clear HB; have HO131 := n0_; have BK122 := n1_; have HB := n2_; clear n0_ n1_ n2_; (try clear hb); (try clear hb2); (try clear hk); (try clear hi)))
       go_ret
       exact ⟨by first | rfl | (simp [errW_none, errW_some] <;> rfl) | (simp [*, errW_none, errW_some] <;> rfl), upB HB.out⟩
   ·rw [if_neg c8] at H
    have c8b0 : (a0_0 == 0) = false := beq_eq_false_iff_ne.mpr c8
    have c8b1 : (a0_0 != 0) = true := bne_iff_ne.mpr c8
    replace H := Option.bind_eq_some_iff.mp H
    obtain ⟨t123, A230, H⟩ := H
    replace H : ((tale_join.f (([(⟨#[101, 114, 114, 111, 114]⟩ : ByteArray), t123] : List ByteArray))).bind fun t127 => (some t127)) = some r := H
    have A23 := Aside0.mk A230
    clear A230
    obtain ⟨y124, hy124⟩ : ∃ y_ : List ByteArray, y_ = (([(⟨#[101, 114, 114, 111, 114]⟩ : ByteArray), t123] : List ByteArray)) := ⟨_, rfl⟩
    replace H : ((tale_join.f y124).bind fun t127 => (some t127)) = some r := by first | (rw [hy124]; with_reducible exact H) | (have H2_ := (Option.bind_some _ _).symm.trans H; rw [hy124]; with_reducible exact H2_) | (have H2_ := (Option.bind_some _ _).symm.trans H; with_reducible exact H2_) | with_reducible exact H | (rw [hy124]; exact H) | exact H
    have Ny124 := Aside0.mk hy124
    clear hy124
    replace H := Option.bind_eq_some_iff.mp H
    obtain ⟨t127, A240, H⟩ := H
    replace H : (some t127) = some r := H
    have A24 := Aside0.mk A240
    clear A240
    obtain rfl := Option.some.inj H
    go_enter Tryd.func7, Tryd.ntmps7
    go_wp2_with (first | ((with_reducible refine gate_dst (N := 1) rfl ?_); refine box_event ?hg (N := 1) ?hd (cs := #[.int .i64 a0_0, .bool a0_1, .int .u64 a0_2]) (t := 25) ?hr ?_; (case hd => rfl); (case hg => rfl); (case hr => first | (go_simp; done) | (go_simp; rfl)); intro gb122 hg w25 hbox hb; have n0_ := Aside0.mk (below_step (upB HB.out) hb); have n1_ := Aside0.mk (hbox); have n2_ := Aside0.mk ((by rw [hg]; exact (below_size (upB HB.out)) : w.heap.size ≤ gb122)); have n3_ := Aside0.mk ((by rw [hg]; exact (below_size (upB HB.out)) : w.heap.size ≤ gb122)); clear HB; have HB := n0_; have BK122 := n1_; have GW122 := n2_; have GE122 := n3_; clear n0_ n1_ n2_ n3_; clear hb hbox hg; have hcz26_0 : w25.cell? ⟨gb122, 0, none⟩ = some (.int .i64 a0_0) := (blk_cell BK122.out 0).trans rfl; have hcz26_1 : w25.cell? ⟨gb122, 1, none⟩ = some (.bool a0_1) := (blk_cell BK122.out 1).trans rfl; have hcz26_2 : w25.cell? ⟨gb122, 2, none⟩ = some (.int .u64 a0_2) := (blk_cell BK122.out 2).trans rfl; have hfz26_0 := blk_frozen BK122.out 0; have hfz26_1 := blk_frozen BK122.out 1; have hfz26_2 := blk_frozen BK122.out 2) | ((with_reducible refine gate_callee (f := 17) rfl ?_); refine goesL_ (some 18) rfl rfl Tryd.func17 (by kernel_rfl) rfl #[.int .i64 a0_0] rfl (by (try simp only [List.map_toArray, List.map_cons, List.map_nil]); first | done | rfl | (simp only [List.length_drop, List.length_take]; rfl)) ?_; (with_reducible refine (itoaG.calls a0_0 t123 _ A23.out HTT.out (upB HB.out)).mono ?_); rintro e w27 ⟨rfl, hb⟩; refine ⟨_, rfl, ?_⟩; have n0_ := Aside0.mk (blk_below (g := gb122) (o := .cells #[.int .i64 a0_0, .bool a0_1, .int .u64 a0_2] 25 (0, 0)) (up BK122.out) hb); have n1_ := Aside0.mk (below_step (upB HB.out) hb); clear BK122; clear HB; have BK122 := n0_; have HB := n1_; clear n0_ n1_; (try clear hb); (try clear hb2); (try clear hk); (try clear hi)) | ((with_reducible refine gate_dst (N := 19) rfl ?_); refine Kd.R_lit Kd.string _ 9 ?hg (N := 19) ?hd (xs := ([(⟨#[101, 114, 114, 111, 114]⟩ : ByteArray), t123] : List ByteArray)) (inner := [.string (⟨#[101, 114, 114, 111, 114]⟩ : ByteArray), .string t123]) (ok := fun _ => True) (okp := fun _ => True) ?hr ?hp (fun _ hk => hk) trivial (Below.refl _ _) (Nat.le_refl _) (by simp) ?_; (case hd => rfl); (case hg => rfl); (case hr => first | (go_simp; done) | (go_simp; rfl)); (case hp => exact (Reps.one (show Kd.M Kd.string _ _ _ (⟨#[101, 114, 114, 111, 114]⟩ : ByteArray) [.string (⟨#[101, 114, 114, 111, 114]⟩ : ByteArray)] from rfl) (Reps.one (show Kd.M Kd.string _ _ _ t123 [.string t123] from rfl) (Reps.none _ _)))); intro v125 w28 ho29 hb hg_ hnew_; clear hg_ hnew_; (first | rw [← Ny124.out] at ho29 | (simp only [Int.reduceToNat] at ho29; rw [← Ny124.out] at ho29)); have n0_ := Aside0.mk (Kd.R_lower ho29 (below_size (upB HB.out))); have n1_ := Aside0.mk (blk_below (g := gb122) (o := .cells #[.int .i64 a0_0, .bool a0_1, .int .u64 a0_2] 25 (0, 0)) (up BK122.out) hb); have n2_ := Aside0.mk (below_step (upB HB.out) hb); clear BK122; clear HB; have HO126 := n0_; have BK122 := n1_; have HB := n2_; clear n0_ n1_ n2_; clear hb ho29; obtain ⟨Ao30, co30, eo30⟩ := Kd.R_slice HO126.out; subst eo30) | ((with_reducible refine gate_callee (f := 16) rfl ?_); refine goesL_ (some 20) rfl rfl Tryd.func16 (by kernel_rfl) rfl #[.slice Ao30 y124.length co30] rfl (by (try simp only [List.map_toArray, List.map_cons, List.map_nil]); first | done | rfl | (simp only [List.length_drop, List.length_take]; rfl)) ?_; (with_reducible refine (tale_join.calls _ _ y124 t127 _ ?side1 ?side2 A24.out).mono ?_); (case side1 => repeat (first | exact (Kd.R_reads' HO126.out).2.2 | (with_reducible refine Kd.C_alloc ?_ _) | (with_reducible refine Kd.C_drewN ?_ _) | (with_reducible refine Kd.C_drew ?_))); (case side2 => exact (Kd.R_reads' HO126.out).2.1); rintro e w31 ⟨rfl, hb⟩; refine ⟨_, rfl, ?_⟩; have n0_ := Aside0.mk (Kd.R_below (by (with_reducible repeat (first | apply Kd.R_alloc | apply Kd.R_drewN | apply Kd.R_drew)); exact HO126.out) hb); have n1_ := Aside0.mk (blk_below (g := gb122) (o := .cells #[.int .i64 a0_0, .bool a0_1, .int .u64 a0_2] 25 (0, 0)) (up BK122.out) hb); have n2_ := Aside0.mk (below_step (upB HB.out) hb); clear HO126; clear BK122; clear HB; have HO126 := n0_; have BK122 := n1_; have HB := n2_; clear n0_ n1_ n2_; (try clear hb); (try clear hb2); (try clear hk); (try clear hi)))
    go_ret
    exact ⟨by first | rfl | (simp [errW_none, errW_some] <;> rfl) | (simp [*, errW_none, errW_some] <;> rfl), upB HB.out⟩
end Go.Proofs.YtinmmnljicmppaaDoor.PTaleApart
