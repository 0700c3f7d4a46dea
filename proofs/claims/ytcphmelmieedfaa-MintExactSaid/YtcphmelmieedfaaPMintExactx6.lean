-- WRITTEN BY A PROGRAM OF THIS SESSION (xprint.sh): the walks of plain functions over contracts of my own.
import Derived.Test.YtcphmelmieedfaaPMintExactx0
import Derived.Test.YtcphmelmieedfaaPMintExactx4
import Derived.Test.YtcphmelmieedfaaPMintExactx5
namespace Go.Proofs.Ytcphmelmieedfaa.PMintExact
open Go.RowKit Go.Proofs.YtcphmelmieedfaaW.PrintWords Go.Proofs.YtcphmelmieedfaaW.PrintLast Go.Proofs.YtcphmelmieedfaaW.PrintMore
attribute [local go_sem] max2_int min2_int max_two min_two max_three min_three max_four min_four   -- for this text's walks alone
set_option linter.unusedVariables false
set_option linter.unusedSimpArgs false

/-! ### revenantref34_Mint_Op: function 23 -/
mutual
def revenantref34_Mint_Op.j0 : Nat → Int → Bool → Int → Int → Int → Int → Int → Int → Int → Int → Int → Int → Option (Int × Int × Int × Int × Int)
  | 0, _, _, _, _, _, _, _, _, _, _, _, _ => none
  | k + 1, x2, x19, x1000, x229000, x229001, x229002, x229003, x229004, x231000, x231001, x231002, x231003 => if x19 = true then (some (x231000, x231001, x231002, x231003, x1000)) else ((revenantref34_Mint_Below.f x1000 16).bind fun bt232 => (if bt232.1 = 0 then (some (8, x231001, x231002, x231003, bt232.2)) else (if x229000 = 2 then ((revenantref34_Mint_Below.f bt232.2 4).bind fun bt234 => (revenantref34_Mint_Op.j1 k x2 bt234.2 x229000 x229001 x229002 x229003 x229004 (wrap64 (4 + bt234.1)) x231001 x231002 x231003)) else ((revenantref34_Mint_Below.f bt232.2 3).bind fun bt236 => (revenantref34_Mint_Op.j1 k x2 bt236.2 x229000 x229001 x229002 x229003 x229004 (wrap64 (1 + bt236.1)) x231001 x231002 x231003)))))
def revenantref34_Mint_Op.j1 : Nat → Int → Int → Int → Int → Int → Int → Int → Int → Int → Int → Int → Option (Int × Int × Int × Int × Int)
  | 0, _, _, _, _, _, _, _, _, _, _, _ => none
  | k + 1, x2, x1000, x229000, x229001, x229002, x229003, x229004, x231000, x231001, x231002, x231003 => (revenantref34_Mint_Below.f x1000 x2).bind fun bt238 => (if x231000 = 4 then (revenantref34_Mint_Op.j2 k true bt238.2 x229000 x229001 x229002 x229003 x229004 x231000 (IntKind.u64.wrap (bt238.1)) x231002 x231003) else (revenantref34_Mint_Op.j2 k (x231000 == 5) bt238.2 x229000 x229001 x229002 x229003 x229004 x231000 (IntKind.u64.wrap (bt238.1)) x231002 x231003))
def revenantref34_Mint_Op.j2 : Nat → Bool → Int → Int → Int → Int → Int → Int → Int → Int → Int → Int → Option (Int × Int × Int × Int × Int)
  | 0, _, _, _, _, _, _, _, _, _, _, _ => none
  | k + 1, x49, x1000, x229000, x229001, x229002, x229003, x229004, x231000, x231001, x231002, x231003 => if x49 = true then ((revenantref34_Mint_Below.f x1000 100).bind fun bt240 => (revenantref34_Mint_Op.j3 k bt240.2 x229000 x229001 x229002 x229003 x229004 x231000 x231001 (IntKind.u64.wrap (bt240.1)) x231003)) else (revenantref34_Mint_Op.j3 k x1000 x229000 x229001 x229002 x229003 x229004 x231000 x231001 x231002 x231003)
def revenantref34_Mint_Op.j3 : Nat → Int → Int → Int → Int → Int → Int → Int → Int → Int → Int → Option (Int × Int × Int × Int × Int)
  | 0, _, _, _, _, _, _, _, _, _, _ => none
  | k + 1, x1000, x229000, x229001, x229002, x229003, x229004, x231000, x231001, x231002, x231003 => if x231000 = 1 then (revenantref34_Mint_Op.j4 k (x229000 == 3) x1000 x229000 x229001 x229002 x229003 x229004 x231000 x231001 x231002 x231003) else (revenantref34_Mint_Op.j4 k false x1000 x229000 x229001 x229002 x229003 x229004 x231000 x231001 x231002 x231003)
def revenantref34_Mint_Op.j4 : Nat → Bool → Int → Int → Int → Int → Int → Int → Int → Int → Int → Int → Option (Int × Int × Int × Int × Int)
  | 0, _, _, _, _, _, _, _, _, _, _, _ => none
  | k + 1, x61, x1000, x229000, x229001, x229002, x229003, x229004, x231000, x231001, x231002, x231003 => if x61 = true then (revenantref34_Mint_Op.l0 k x1000 x229000 x229001 x229002 x229003 x229004 x231000 x231001 x231002 1) else (some (x231000, x231001, x231002, x231003, x1000))
def revenantref34_Mint_Op.l0 : Nat → Int → Int → Int → Int → Int → Int → Int → Int → Int → Int → Option (Int × Int × Int × Int × Int)
  | 0, _, _, _, _, _, _, _, _, _, _ => none
  | k + 1, x1000, x229000, x229001, x229002, x229003, x229004, x231000, x231001, x231002, x231003 => if x231003 < x229003 then ((revenantref34_Mint_Below.f x1000 2).bind fun bt242 => (if bt242.1 = 0 then (revenantref34_Mint_Op.l0 k bt242.2 x229000 x229001 x229002 x229003 x229004 x231000 x231001 x231002 (wrap64 (x231003 + 1))) else (some (x231000, x231001, x231002, x231003, bt242.2)))) else (some (x231000, x231001, x231002, x231003, x1000))
end
def revenantref34_Mint_Op.f (k : Nat) (s0_0 : Int) (a1_0 : Int) (a1_1 : Int) (a1_2 : Int) (a1_3 : Int) (a1_4 : Int) (a2 : Int) : Option (Int × Int × Int × Int × Int) := (revenantref03_Check.f k a1_0 a1_1 a1_2 a1_3 a1_4).bind fun t231 => (if t231 = 0 then (if a2 < 1 then (revenantref34_Mint_Op.j0 k a2 true s0_0 a1_0 a1_1 a1_2 a1_3 a1_4 0 0 0 0) else (revenantref34_Mint_Op.j0 k a2 (decide (a2 > 2147483648)) s0_0 a1_0 a1_1 a1_2 a1_3 a1_4 0 0 0 0)) else (revenantref34_Mint_Op.j0 k a2 true s0_0 a1_0 a1_1 a1_2 a1_3 a1_4 0 0 0 0))
theorem revenantref34_Mint_Op.mono_l : ∀ k, (∀ y0 y1 y2 y3 y4 y5 y6 y7 y8 y9 y10 y11, LeO (revenantref34_Mint_Op.j0 k y0 y1 y2 y3 y4 y5 y6 y7 y8 y9 y10 y11) (revenantref34_Mint_Op.j0 (k + 1) y0 y1 y2 y3 y4 y5 y6 y7 y8 y9 y10 y11)) ∧ (∀ y0 y1 y2 y3 y4 y5 y6 y7 y8 y9 y10, LeO (revenantref34_Mint_Op.j1 k y0 y1 y2 y3 y4 y5 y6 y7 y8 y9 y10) (revenantref34_Mint_Op.j1 (k + 1) y0 y1 y2 y3 y4 y5 y6 y7 y8 y9 y10)) ∧ (∀ y0 y1 y2 y3 y4 y5 y6 y7 y8 y9 y10, LeO (revenantref34_Mint_Op.j2 k y0 y1 y2 y3 y4 y5 y6 y7 y8 y9 y10) (revenantref34_Mint_Op.j2 (k + 1) y0 y1 y2 y3 y4 y5 y6 y7 y8 y9 y10)) ∧ (∀ y0 y1 y2 y3 y4 y5 y6 y7 y8 y9, LeO (revenantref34_Mint_Op.j3 k y0 y1 y2 y3 y4 y5 y6 y7 y8 y9) (revenantref34_Mint_Op.j3 (k + 1) y0 y1 y2 y3 y4 y5 y6 y7 y8 y9)) ∧ (∀ y0 y1 y2 y3 y4 y5 y6 y7 y8 y9 y10, LeO (revenantref34_Mint_Op.j4 k y0 y1 y2 y3 y4 y5 y6 y7 y8 y9 y10) (revenantref34_Mint_Op.j4 (k + 1) y0 y1 y2 y3 y4 y5 y6 y7 y8 y9 y10)) ∧ (∀ y0 y1 y2 y3 y4 y5 y6 y7 y8 y9, LeO (revenantref34_Mint_Op.l0 k y0 y1 y2 y3 y4 y5 y6 y7 y8 y9) (revenantref34_Mint_Op.l0 (k + 1) y0 y1 y2 y3 y4 y5 y6 y7 y8 y9))
  | 0 => ⟨fun _ _ _ _ _ _ _ _ _ _ _ _ r h => by simp [revenantref34_Mint_Op.j0] at h, fun _ _ _ _ _ _ _ _ _ _ _ r h => by simp [revenantref34_Mint_Op.j1] at h, fun _ _ _ _ _ _ _ _ _ _ _ r h => by simp [revenantref34_Mint_Op.j2] at h, fun _ _ _ _ _ _ _ _ _ _ r h => by simp [revenantref34_Mint_Op.j3] at h, fun _ _ _ _ _ _ _ _ _ _ _ r h => by simp [revenantref34_Mint_Op.j4] at h, fun _ _ _ _ _ _ _ _ _ _ r h => by simp [revenantref34_Mint_Op.l0] at h⟩
  | k + 1 => by
    obtain ⟨ih0, ih1, ih2, ih3, ih4, ih5⟩ := revenantref34_Mint_Op.mono_l k
    refine ⟨?_, ?_, ?_, ?_, ?_, ?_⟩
    · intro y0 y1 y2 y3 y4 y5 y6 y7 y8 y9 y10 y11
      unfold revenantref34_Mint_Op.j0
      repeat' first
      | (with_reducible exact ih0 _ _ _ _ _ _ _ _ _ _ _ _)
      | (with_reducible exact ih1 _ _ _ _ _ _ _ _ _ _ _)
      | (with_reducible exact ih2 _ _ _ _ _ _ _ _ _ _ _)
      | (with_reducible exact ih3 _ _ _ _ _ _ _ _ _ _)
      | (with_reducible exact ih4 _ _ _ _ _ _ _ _ _ _ _)
      | (with_reducible exact ih5 _ _ _ _ _ _ _ _ _ _)
      | (with_reducible exact revenantref03_Check.mono _ _ _ _ _ _)
      | (with_reducible exact LeO.refl _)
      | (with_reducible exact LeO.none _)
      | (with_reducible refine LeO.ite ?_ ?_)
      | (with_reducible refine LeO.bind ?_ (fun _ => ?_))
      | exact ih0 _ _ _ _ _ _ _ _ _ _ _ _
      | exact ih1 _ _ _ _ _ _ _ _ _ _ _
      | exact ih2 _ _ _ _ _ _ _ _ _ _ _
      | exact ih3 _ _ _ _ _ _ _ _ _ _
      | exact ih4 _ _ _ _ _ _ _ _ _ _ _
      | exact ih5 _ _ _ _ _ _ _ _ _ _
      | exact revenantref03_Check.mono _ _ _ _ _ _
      | exact LeO.none _
      | refine LeO.ite ?_ ?_
      | refine LeO.bind ?_ (fun _ => ?_)
    · intro y0 y1 y2 y3 y4 y5 y6 y7 y8 y9 y10
      unfold revenantref34_Mint_Op.j1
      repeat' first
      | (with_reducible exact ih0 _ _ _ _ _ _ _ _ _ _ _ _)
      | (with_reducible exact ih1 _ _ _ _ _ _ _ _ _ _ _)
      | (with_reducible exact ih2 _ _ _ _ _ _ _ _ _ _ _)
      | (with_reducible exact ih3 _ _ _ _ _ _ _ _ _ _)
      | (with_reducible exact ih4 _ _ _ _ _ _ _ _ _ _ _)
      | (with_reducible exact ih5 _ _ _ _ _ _ _ _ _ _)
      | (with_reducible exact revenantref03_Check.mono _ _ _ _ _ _)
      | (with_reducible exact LeO.refl _)
      | (with_reducible exact LeO.none _)
      | (with_reducible refine LeO.ite ?_ ?_)
      | (with_reducible refine LeO.bind ?_ (fun _ => ?_))
      | exact ih0 _ _ _ _ _ _ _ _ _ _ _ _
      | exact ih1 _ _ _ _ _ _ _ _ _ _ _
      | exact ih2 _ _ _ _ _ _ _ _ _ _ _
      | exact ih3 _ _ _ _ _ _ _ _ _ _
      | exact ih4 _ _ _ _ _ _ _ _ _ _ _
      | exact ih5 _ _ _ _ _ _ _ _ _ _
      | exact revenantref03_Check.mono _ _ _ _ _ _
      | exact LeO.none _
      | refine LeO.ite ?_ ?_
      | refine LeO.bind ?_ (fun _ => ?_)
    · intro y0 y1 y2 y3 y4 y5 y6 y7 y8 y9 y10
      unfold revenantref34_Mint_Op.j2
      repeat' first
      | (with_reducible exact ih0 _ _ _ _ _ _ _ _ _ _ _ _)
      | (with_reducible exact ih1 _ _ _ _ _ _ _ _ _ _ _)
      | (with_reducible exact ih2 _ _ _ _ _ _ _ _ _ _ _)
      | (with_reducible exact ih3 _ _ _ _ _ _ _ _ _ _)
      | (with_reducible exact ih4 _ _ _ _ _ _ _ _ _ _ _)
      | (with_reducible exact ih5 _ _ _ _ _ _ _ _ _ _)
      | (with_reducible exact revenantref03_Check.mono _ _ _ _ _ _)
      | (with_reducible exact LeO.refl _)
      | (with_reducible exact LeO.none _)
      | (with_reducible refine LeO.ite ?_ ?_)
      | (with_reducible refine LeO.bind ?_ (fun _ => ?_))
      | exact ih0 _ _ _ _ _ _ _ _ _ _ _ _
      | exact ih1 _ _ _ _ _ _ _ _ _ _ _
      | exact ih2 _ _ _ _ _ _ _ _ _ _ _
      | exact ih3 _ _ _ _ _ _ _ _ _ _
      | exact ih4 _ _ _ _ _ _ _ _ _ _ _
      | exact ih5 _ _ _ _ _ _ _ _ _ _
      | exact revenantref03_Check.mono _ _ _ _ _ _
      | exact LeO.none _
      | refine LeO.ite ?_ ?_
      | refine LeO.bind ?_ (fun _ => ?_)
    · intro y0 y1 y2 y3 y4 y5 y6 y7 y8 y9
      unfold revenantref34_Mint_Op.j3
      repeat' first
      | (with_reducible exact ih0 _ _ _ _ _ _ _ _ _ _ _ _)
      | (with_reducible exact ih1 _ _ _ _ _ _ _ _ _ _ _)
      | (with_reducible exact ih2 _ _ _ _ _ _ _ _ _ _ _)
      | (with_reducible exact ih3 _ _ _ _ _ _ _ _ _ _)
      | (with_reducible exact ih4 _ _ _ _ _ _ _ _ _ _ _)
      | (with_reducible exact ih5 _ _ _ _ _ _ _ _ _ _)
      | (with_reducible exact revenantref03_Check.mono _ _ _ _ _ _)
      | (with_reducible exact LeO.refl _)
      | (with_reducible exact LeO.none _)
      | (with_reducible refine LeO.ite ?_ ?_)
      | (with_reducible refine LeO.bind ?_ (fun _ => ?_))
      | exact ih0 _ _ _ _ _ _ _ _ _ _ _ _
      | exact ih1 _ _ _ _ _ _ _ _ _ _ _
      | exact ih2 _ _ _ _ _ _ _ _ _ _ _
      | exact ih3 _ _ _ _ _ _ _ _ _ _
      | exact ih4 _ _ _ _ _ _ _ _ _ _ _
      | exact ih5 _ _ _ _ _ _ _ _ _ _
      | exact revenantref03_Check.mono _ _ _ _ _ _
      | exact LeO.none _
      | refine LeO.ite ?_ ?_
      | refine LeO.bind ?_ (fun _ => ?_)
    · intro y0 y1 y2 y3 y4 y5 y6 y7 y8 y9 y10
      unfold revenantref34_Mint_Op.j4
      repeat' first
      | (with_reducible exact ih0 _ _ _ _ _ _ _ _ _ _ _ _)
      | (with_reducible exact ih1 _ _ _ _ _ _ _ _ _ _ _)
      | (with_reducible exact ih2 _ _ _ _ _ _ _ _ _ _ _)
      | (with_reducible exact ih3 _ _ _ _ _ _ _ _ _ _)
      | (with_reducible exact ih4 _ _ _ _ _ _ _ _ _ _ _)
      | (with_reducible exact ih5 _ _ _ _ _ _ _ _ _ _)
      | (with_reducible exact revenantref03_Check.mono _ _ _ _ _ _)
      | (with_reducible exact LeO.refl _)
      | (with_reducible exact LeO.none _)
      | (with_reducible refine LeO.ite ?_ ?_)
      | (with_reducible refine LeO.bind ?_ (fun _ => ?_))
      | exact ih0 _ _ _ _ _ _ _ _ _ _ _ _
      | exact ih1 _ _ _ _ _ _ _ _ _ _ _
      | exact ih2 _ _ _ _ _ _ _ _ _ _ _
      | exact ih3 _ _ _ _ _ _ _ _ _ _
      | exact ih4 _ _ _ _ _ _ _ _ _ _ _
      | exact ih5 _ _ _ _ _ _ _ _ _ _
      | exact revenantref03_Check.mono _ _ _ _ _ _
      | exact LeO.none _
      | refine LeO.ite ?_ ?_
      | refine LeO.bind ?_ (fun _ => ?_)
    · intro y0 y1 y2 y3 y4 y5 y6 y7 y8 y9
      unfold revenantref34_Mint_Op.l0
      repeat' first
      | (with_reducible exact ih0 _ _ _ _ _ _ _ _ _ _ _ _)
      | (with_reducible exact ih1 _ _ _ _ _ _ _ _ _ _ _)
      | (with_reducible exact ih2 _ _ _ _ _ _ _ _ _ _ _)
      | (with_reducible exact ih3 _ _ _ _ _ _ _ _ _ _)
      | (with_reducible exact ih4 _ _ _ _ _ _ _ _ _ _ _)
      | (with_reducible exact ih5 _ _ _ _ _ _ _ _ _ _)
      | (with_reducible exact revenantref03_Check.mono _ _ _ _ _ _)
      | (with_reducible exact LeO.refl _)
      | (with_reducible exact LeO.none _)
      | (with_reducible refine LeO.ite ?_ ?_)
      | (with_reducible refine LeO.bind ?_ (fun _ => ?_))
      | exact ih0 _ _ _ _ _ _ _ _ _ _ _ _
      | exact ih1 _ _ _ _ _ _ _ _ _ _ _
      | exact ih2 _ _ _ _ _ _ _ _ _ _ _
      | exact ih3 _ _ _ _ _ _ _ _ _ _
      | exact ih4 _ _ _ _ _ _ _ _ _ _ _
      | exact ih5 _ _ _ _ _ _ _ _ _ _
      | exact revenantref03_Check.mono _ _ _ _ _ _
      | exact LeO.none _
      | refine LeO.ite ?_ ?_
      | refine LeO.bind ?_ (fun _ => ?_)
theorem revenantref34_Mint_Op.mono : ∀ a0 a1 a2 a3 a4 a5 a6 k, LeO (revenantref34_Mint_Op.f k a0 a1 a2 a3 a4 a5 a6) (revenantref34_Mint_Op.f (k + 1) a0 a1 a2 a3 a4 a5 a6) := by
  intro a0 a1 a2 a3 a4 a5 a6 k
  obtain ⟨ih0, ih1, ih2, ih3, ih4, ih5⟩ := revenantref34_Mint_Op.mono_l k
  unfold revenantref34_Mint_Op.f
  repeat' first
      | (with_reducible exact ih0 _ _ _ _ _ _ _ _ _ _ _ _)
      | (with_reducible exact ih1 _ _ _ _ _ _ _ _ _ _ _)
      | (with_reducible exact ih2 _ _ _ _ _ _ _ _ _ _ _)
      | (with_reducible exact ih3 _ _ _ _ _ _ _ _ _ _)
      | (with_reducible exact ih4 _ _ _ _ _ _ _ _ _ _ _)
      | (with_reducible exact ih5 _ _ _ _ _ _ _ _ _ _)
      | (with_reducible exact revenantref03_Check.mono _ _ _ _ _ _)
      | (with_reducible exact LeO.refl _)
      | (with_reducible exact LeO.none _)
      | (with_reducible refine LeO.ite ?_ ?_)
      | (with_reducible refine LeO.bind ?_ (fun _ => ?_))
      | exact ih0 _ _ _ _ _ _ _ _ _ _ _ _
      | exact ih1 _ _ _ _ _ _ _ _ _ _ _
      | exact ih2 _ _ _ _ _ _ _ _ _ _ _
      | exact ih3 _ _ _ _ _ _ _ _ _ _
      | exact ih4 _ _ _ _ _ _ _ _ _ _ _
      | exact ih5 _ _ _ _ _ _ _ _ _ _
      | exact revenantref03_Check.mono _ _ _ _ _ _
      | exact LeO.none _
      | refine LeO.ite ?_ ?_
      | refine LeO.bind ?_ (fun _ => ?_)
set_option maxHeartbeats 8000000 in
set_option maxRecDepth 100000 in
theorem revenantref34_Mint_Op.calls (k : Nat) (g : Nat) (s0_0 : Int) (a1_0 : Int) (a1_1 : Int) (a1_2 : Int) (a1_3 : Int) (a1_4 : Int) (a2 : Int) (r1 : Int) (r2 : Int) (r3 : Int) (r4 : Int) (r5 : Int) (w0 w : World) (hI : IsS73 w0 w g s0_0) (hB : Below w0.heap.size w0 w) (h : revenantref34_Mint_Op.f k s0_0 a1_0 a1_1 a1_2 a1_3 a1_4 a2 = some (r1, r2, r3, r4, r5)) :
    Calls Try.prog 23 #[.pointer (some ⟨g, 0, none⟩), .agg #[.int .i64 a1_0, .int .i64 a1_1, .int .i64 a1_2, .int .i64 a1_3, .int .i64 a1_4], .int .i64 a2] w fun e w' => e = .returned (.agg #[.int .i64 r1, .int .u64 r2, .int .u64 r3, .int .i64 r4]) ∧ IsS73 w0 w' g r5 ∧ Below w0.heap.size w0 w' ∧ KeepBut w w' g none := by
  have hu31 := Try.underlying31
  have hu37 := Try.underlying37
  have HI0 := Aside0.mk hI
  have HK := Aside0.mk (KeepBut.refl w g none)
  have HL := Aside0.mk hB.size
  clear hI
  have HW0 := Aside0.mk hB.size
  have HB := Aside0.mk hB
  clear hB
  have H : ((revenantref03_Check.f k a1_0 a1_1 a1_2 a1_3 a1_4).bind fun t231 => (if t231 = 0 then (if a2 < 1 then (revenantref34_Mint_Op.j0 k a2 true s0_0 a1_0 a1_1 a1_2 a1_3 a1_4 0 0 0 0) else (revenantref34_Mint_Op.j0 k a2 (decide (a2 > 2147483648)) s0_0 a1_0 a1_1 a1_2 a1_3 a1_4 0 0 0 0)) else (revenantref34_Mint_Op.j0 k a2 true s0_0 a1_0 a1_1 a1_2 a1_3 a1_4 0 0 0 0))) = some (r1, r2, r3, r4, r5) := h
  clear h
  have HC4 := Aside0.mk H
  clear H
  go_enter Try.func23, Try.ntmps23
  go_upto_region 2 with (first | ((with_reducible refine gate_dst (N := 4) rfl ?_); refine box_event ?hg (N := 4) ?hd (cs := #[.int .i64 a1_0, .int .i64 a1_1, .int .i64 a1_2, .int .i64 a1_3, .int .i64 a1_4]) (t := 31) ?hr ?_; (case hd => rfl); (case hg => rfl); (case hr => first | (go_simp; done) | (go_simp; rfl)); intro gb228 hg w5 hbox hb; have n0_ := Aside0.mk (IsS73.below (by repeat (first | (with_reducible first | exact HI0.out | apply IsS73.alloc | apply IsS73.drewN | apply IsS73.drew | apply IsS73.set_0) | exact HI0.out)) hb); have n1_ := Aside0.mk (KeepBut.trans (by repeat (first | (with_reducible first | exact HK.out | apply KeepBut.set_ | apply keep_drewN | apply keep_drew | apply keep_alloc) | exact HK.out)) (KeepBut.of_below hb g none) (.inl rfl)); have n2_ := Aside0.mk (below_step (by repeat (first | (with_reducible first | exact HB.out | apply below_alloc | apply pw_below_drewN | apply below_drew1 | refine below_set ?_ (IsS73.ge HI0.out)) | exact HB.out)) hb); have n3_ := Aside0.mk (hbox); have n4_ := Aside0.mk ((by rw [hg]; exact (keep_size (w := w) (g := g) (row := none) (by repeat (first | (with_reducible first | exact HK.out | apply KeepBut.set_ | apply keep_drewN | apply keep_drew | apply keep_alloc) | exact HK.out))) : w.heap.size ≤ gb228)); have n5_ := Aside0.mk ((Nat.le_trans HW0.out (by rw [hg]; exact (keep_size (w := w) (g := g) (row := none) (by repeat (first | (with_reducible first | exact HK.out | apply KeepBut.set_ | apply keep_drewN | apply keep_drew | apply keep_alloc) | exact HK.out))) : w.heap.size ≤ gb228) : w0.heap.size ≤ gb228)); have n6_ := Aside0.mk ((by rw [hg]; exact Nat.ne_of_lt (IsS73.lt (show IsS73 w0 _ g s0_0 from by repeat (first | (with_reducible first | exact HI0.out | apply IsS73.alloc | apply IsS73.drewN | apply IsS73.drew | apply IsS73.set_0) | exact HI0.out))) : g ≠ gb228)); have n7_ := Aside0.mk ((by rw [hg]; exact Nat.ne_of_gt (IsS73.lt (show IsS73 w0 _ g s0_0 from by repeat (first | (with_reducible first | exact HI0.out | apply IsS73.alloc | apply IsS73.drewN | apply IsS73.drew | apply IsS73.set_0) | exact HI0.out))) : gb228 ≠ g)); clear HI0; clear HK; clear HB; have HI0 := n0_; have HK := n1_; have HB := n2_; have BK228 := n3_; have GW228 := n4_; have GE228 := n5_; have NB0_228 := n6_; have NB228_0 := n7_; clear n0_ n1_ n2_ n3_ n4_ n5_ n6_ n7_; clear hb hbox hg) | ((with_reducible refine gate_dst (N := 6) rfl ?_); refine box_event ?hg (N := 6) ?hd (cs := #[.int .i64 0, .int .u64 0, .int .u64 0, .int .i64 0]) (t := 37) ?hr ?_; (case hd => rfl); (case hg => rfl); (case hr => first | (go_simp; done) | (go_simp; rfl)); intro gb229 hg w6 hbox hb; have n0_ := Aside0.mk (IsS73.below (by repeat (first | (with_reducible first | exact HI0.out | apply IsS73.alloc | apply IsS73.drewN | apply IsS73.drew | apply IsS73.set_0 | refine IsS73.far ?_ NB0_228.out _) | exact HI0.out)) hb); have n1_ := Aside0.mk (blk_below (g := gb228) (o := .cells #[.int .i64 a1_0, .int .i64 a1_1, .int .i64 a1_2, .int .i64 a1_3, .int .i64 a1_4] 31 (0, 0)) (by (with_reducible repeat (first | refine blk_drewN ?_ _ | refine blk_drew ?_ | refine blk_alloc ?_ _)); exact BK228.out) hb); have n2_ := Aside0.mk (KeepBut.trans (by repeat (first | (with_reducible first | exact HK.out | apply KeepBut.set_ | apply keep_drewN | apply keep_drew | apply keep_alloc | refine keep_far ?_ GW228.out _) | exact HK.out)) (KeepBut.of_below hb g none) (.inl rfl)); have n3_ := Aside0.mk (below_step (by repeat (first | (with_reducible first | exact HB.out | apply below_alloc | apply pw_below_drewN | apply below_drew1 | refine below_set ?_ (IsS73.ge HI0.out) | refine below_set ?_ GE228.out) | exact HB.out)) hb); have n4_ := Aside0.mk (hbox); have n5_ := Aside0.mk ((by rw [hg]; exact (keep_size (w := w) (g := g) (row := none) (by repeat (first | (with_reducible first | exact HK.out | apply KeepBut.set_ | apply keep_drewN | apply keep_drew | apply keep_alloc | refine keep_far ?_ GW228.out _) | exact HK.out))) : w.heap.size ≤ gb229)); have n6_ := Aside0.mk ((Nat.le_trans HW0.out (by rw [hg]; exact (keep_size (w := w) (g := g) (row := none) (by repeat (first | (with_reducible first | exact HK.out | apply KeepBut.set_ | apply keep_drewN | apply keep_drew | apply keep_alloc | refine keep_far ?_ GW228.out _) | exact HK.out))) : w.heap.size ≤ gb229) : w0.heap.size ≤ gb229)); have n7_ := Aside0.mk ((by rw [hg]; exact Nat.ne_of_lt (blk_lt (g := gb228) (o := .cells #[.int .i64 a1_0, .int .i64 a1_1, .int .i64 a1_2, .int .i64 a1_3, .int .i64 a1_4] 31 (0, 0)) (by (with_reducible repeat (first | refine blk_drewN ?_ _ | refine blk_drew ?_ | refine blk_alloc ?_ _)); exact BK228.out)) : gb228 ≠ gb229)); have n8_ := Aside0.mk ((by rw [hg]; exact Nat.ne_of_gt (blk_lt (g := gb228) (o := .cells #[.int .i64 a1_0, .int .i64 a1_1, .int .i64 a1_2, .int .i64 a1_3, .int .i64 a1_4] 31 (0, 0)) (by (with_reducible repeat (first | refine blk_drewN ?_ _ | refine blk_drew ?_ | refine blk_alloc ?_ _)); exact BK228.out)) : gb229 ≠ gb228)); have n9_ := Aside0.mk ((by rw [hg]; exact Nat.ne_of_lt (IsS73.lt (show IsS73 w0 _ g s0_0 from by repeat (first | (with_reducible first | exact HI0.out | apply IsS73.alloc | apply IsS73.drewN | apply IsS73.drew | apply IsS73.set_0 | refine IsS73.far ?_ NB0_228.out _) | exact HI0.out))) : g ≠ gb229)); have n10_ := Aside0.mk ((by rw [hg]; exact Nat.ne_of_gt (IsS73.lt (show IsS73 w0 _ g s0_0 from by repeat (first | (with_reducible first | exact HI0.out | apply IsS73.alloc | apply IsS73.drewN | apply IsS73.drew | apply IsS73.set_0 | refine IsS73.far ?_ NB0_228.out _) | exact HI0.out))) : gb229 ≠ g)); clear HI0; clear BK228; clear HK; clear HB; have HI0 := n0_; have BK228 := n1_; have HK := n2_; have HB := n3_; have BK229 := n4_; have GW229 := n5_; have GE229 := n6_; have NB228_229 := n7_; have NB229_228 := n8_; have NB0_229 := n9_; have NB229_0 := n10_; clear n0_ n1_ n2_ n3_ n4_ n5_ n6_ n7_ n8_ n9_ n10_; clear hb hbox hg) | ((with_reducible refine gate_dst (N := 7) rfl ?_); refine box_event ?hg (N := 7) ?hd (cs := #[.int .i64 0, .int .u64 0, .int .u64 0, .int .i64 0]) (t := 37) ?hr ?_; (case hd => rfl); (case hg => rfl); (case hr => first | (go_simp; done) | (go_simp; rfl)); intro gb230 hg w7 hbox hb; have n0_ := Aside0.mk (IsS73.below (by repeat (first | (with_reducible first | exact HI0.out | apply IsS73.alloc | apply IsS73.drewN | apply IsS73.drew | apply IsS73.set_0 | refine IsS73.far ?_ NB0_228.out _ | refine IsS73.far ?_ NB0_229.out _) | exact HI0.out)) hb); have n1_ := Aside0.mk (blk_below (g := gb228) (o := .cells #[.int .i64 a1_0, .int .i64 a1_1, .int .i64 a1_2, .int .i64 a1_3, .int .i64 a1_4] 31 (0, 0)) (by (with_reducible repeat (first | refine blk_drewN ?_ _ | refine blk_drew ?_ | refine blk_alloc ?_ _)); exact BK228.out) hb); have n2_ := Aside0.mk (blk_below (g := gb229) (o := .cells #[.int .i64 0, .int .u64 0, .int .u64 0, .int .i64 0] 37 (0, 0)) (by (with_reducible repeat (first | refine blk_drewN ?_ _ | refine blk_drew ?_ | refine blk_alloc ?_ _)); exact BK229.out) hb); have n3_ := Aside0.mk (KeepBut.trans (by repeat (first | (with_reducible first | exact HK.out | apply KeepBut.set_ | apply keep_drewN | apply keep_drew | apply keep_alloc | refine keep_far ?_ GW228.out _ | refine keep_far ?_ GW229.out _) | exact HK.out)) (KeepBut.of_below hb g none) (.inl rfl)); have n4_ := Aside0.mk (below_step (by repeat (first | (with_reducible first | exact HB.out | apply below_alloc | apply pw_below_drewN | apply below_drew1 | refine below_set ?_ (IsS73.ge HI0.out) | refine below_set ?_ GE228.out | refine below_set ?_ GE229.out) | exact HB.out)) hb); have n5_ := Aside0.mk (hbox); have n6_ := Aside0.mk ((by rw [hg]; exact (keep_size (w := w) (g := g) (row := none) (by repeat (first | (with_reducible first | exact HK.out | apply KeepBut.set_ | apply keep_drewN | apply keep_drew | apply keep_alloc | refine keep_far ?_ GW228.out _ | refine keep_far ?_ GW229.out _) | exact HK.out))) : w.heap.size ≤ gb230)); have n7_ := Aside0.mk ((Nat.le_trans HW0.out (by rw [hg]; exact (keep_size (w := w) (g := g) (row := none) (by repeat (first | (with_reducible first | exact HK.out | apply KeepBut.set_ | apply keep_drewN | apply keep_drew | apply keep_alloc | refine keep_far ?_ GW228.out _ | refine keep_far ?_ GW229.out _) | exact HK.out))) : w.heap.size ≤ gb230) : w0.heap.size ≤ gb230)); have n8_ := Aside0.mk ((by rw [hg]; exact Nat.ne_of_lt (blk_lt (g := gb228) (o := .cells #[.int .i64 a1_0, .int .i64 a1_1, .int .i64 a1_2, .int .i64 a1_3, .int .i64 a1_4] 31 (0, 0)) (by (with_reducible repeat (first | refine blk_drewN ?_ _ | refine blk_drew ?_ | refine blk_alloc ?_ _)); exact BK228.out)) : gb228 ≠ gb230)); have n9_ := Aside0.mk ((by rw [hg]; exact Nat.ne_of_gt (blk_lt (g := gb228) (o := .cells #[.int .i64 a1_0, .int .i64 a1_1, .int .i64 a1_2, .int .i64 a1_3, .int .i64 a1_4] 31 (0, 0)) (by (with_reducible repeat (first | refine blk_drewN ?_ _ | refine blk_drew ?_ | refine blk_alloc ?_ _)); exact BK228.out)) : gb230 ≠ gb228)); have n10_ := Aside0.mk ((by rw [hg]; exact Nat.ne_of_lt (blk_lt (g := gb229) (o := .cells #[.int .i64 0, .int .u64 0, .int .u64 0, .int .i64 0] 37 (0, 0)) (by (with_reducible repeat (first | refine blk_drewN ?_ _ | refine blk_drew ?_ | refine blk_alloc ?_ _)); exact BK229.out)) : gb229 ≠ gb230)); have n11_ := Aside0.mk ((by rw [hg]; exact Nat.ne_of_gt (blk_lt (g := gb229) (o := .cells #[.int .i64 0, .int .u64 0, .int .u64 0, .int .i64 0] 37 (0, 0)) (by (with_reducible repeat (first | refine blk_drewN ?_ _ | refine blk_drew ?_ | refine blk_alloc ?_ _)); exact BK229.out)) : gb230 ≠ gb229)); have n12_ := Aside0.mk ((by rw [hg]; exact Nat.ne_of_lt (IsS73.lt (show IsS73 w0 _ g s0_0 from by repeat (first | (with_reducible first | exact HI0.out | apply IsS73.alloc | apply IsS73.drewN | apply IsS73.drew | apply IsS73.set_0 | refine IsS73.far ?_ NB0_228.out _ | refine IsS73.far ?_ NB0_229.out _) | exact HI0.out))) : g ≠ gb230)); have n13_ := Aside0.mk ((by rw [hg]; exact Nat.ne_of_gt (IsS73.lt (show IsS73 w0 _ g s0_0 from by repeat (first | (with_reducible first | exact HI0.out | apply IsS73.alloc | apply IsS73.drewN | apply IsS73.drew | apply IsS73.set_0 | refine IsS73.far ?_ NB0_228.out _ | refine IsS73.far ?_ NB0_229.out _) | exact HI0.out))) : gb230 ≠ g)); clear HI0; clear BK228; clear BK229; clear HK; clear HB; have HI0 := n0_; have BK228 := n1_; have BK229 := n2_; have HK := n3_; have HB := n4_; have BK230 := n5_; have GW230 := n6_; have GE230 := n7_; have NB228_230 := n8_; have NB230_228 := n9_; have NB229_230 := n10_; have NB230_229 := n11_; have NB0_230 := n12_; have NB230_0 := n13_; clear n0_ n1_ n2_ n3_ n4_ n5_ n6_ n7_ n8_ n9_ n10_ n11_ n12_ n13_; clear hb hbox hg; have hnb8 := NB230_228.out; have hnc8 := NB228_230.out; have hnb9 := NB230_229.out; have hnc9 := NB229_230.out; have hnb10 := NB230_0.out; have hnc10 := NB0_230.out; have hcz11_0 : w7.cell? ⟨gb230, 0, none⟩ = some (.int .i64 0) := (blk_cell BK230.out 0).trans rfl; have hcz11_1 : w7.cell? ⟨gb230, 1, none⟩ = some (.int .u64 0) := (blk_cell BK230.out 1).trans rfl; have hcz11_2 : w7.cell? ⟨gb230, 2, none⟩ = some (.int .u64 0) := (blk_cell BK230.out 2).trans rfl; have hcz11_3 : w7.cell? ⟨gb230, 3, none⟩ = some (.int .i64 0) := (blk_cell BK230.out 3).trans rfl; have hfz11_0 := blk_frozen BK230.out 0; have hfz11_1 := blk_frozen BK230.out 1; have hfz11_2 := blk_frozen BK230.out 2; have hfz11_3 := blk_frozen BK230.out 3))
  (try simp only [Act.put, List.setIfInBounds_toArray, List.set_cons_zero, List.set_cons_succ])
  go_cut [19] (fun v19 wc => ∃ (kq : Nat) (x19_3 : Bool), v19 = .bool x19_3 ∧ Aside0 (revenantref34_Mint_Op.j0 kq a2 x19_3 s0_0 a1_0 a1_1 a1_2 a1_3 a1_4 0 0 0 0 = some (r1, r2, r3, r4, r5)) ∧ Aside0 (kq ≤ k) ∧ Aside0 (wc.heap[gb228]? = some (.cells #[.int .i64 a1_0, .int .i64 a1_1, .int .i64 a1_2, .int .i64 a1_3, .int .i64 a1_4] 31 (0, 0))) ∧ Aside0 (wc.heap[gb229]? = some (.cells #[.int .i64 0, .int .u64 0, .int .u64 0, .int .i64 0] 37 (0, 0))) ∧ Aside0 (wc.heap[gb230]? = some (.cells #[.int .i64 0, .int .u64 0, .int .u64 0, .int .i64 0] 37 (0, 0))) ∧ Aside0 (IsS73 w0 wc g s0_0) ∧ Aside0 (KeepBut w wc g none) ∧ Aside0 (Below w0.heap.size w0 wc))
  case first =>
    have H := HC4.out
    clear HC4
    replace H := Option.bind_eq_some_iff.mp H
    obtain ⟨t231, A120, H⟩ := H
    replace H : (if t231 = 0 then (if a2 < 1 then (revenantref34_Mint_Op.j0 k a2 true s0_0 a1_0 a1_1 a1_2 a1_3 a1_4 0 0 0 0) else (revenantref34_Mint_Op.j0 k a2 (decide (a2 > 2147483648)) s0_0 a1_0 a1_1 a1_2 a1_3 a1_4 0 0 0 0)) else (revenantref34_Mint_Op.j0 k a2 true s0_0 a1_0 a1_1 a1_2 a1_3 a1_4 0 0 0 0)) = some (r1, r2, r3, r4, r5) := H
    have A12 := Aside0.mk A120
    clear A120
    by_cases c13 : t231 = 0
    · rw [if_pos c13] at H
      have c13b0 : (t231 == 0) = true := beq_iff_eq.mpr c13
      have c13b1 : (t231 != 0) = false := bne_eq_false_iff_eq.mpr c13
      clear c13
      (first | rw [c13b0] | (simp only [i64_w, i32_w]; rw [c13b0]) | skip)
      by_cases c14 : a2 < 1
      · rw [if_pos c14] at H
        have c14b0 : decide (a2 < 1) = true := decide_eq_true c14
        clear c14
        have H' := Aside0.mk H
        clear H
        have hnb15 := NB228_229.out
        have hnc15 := NB229_228.out
        have hnb16 := NB228_230.out
        have hnc16 := NB230_228.out
        have hnb17 := NB228_0.out
        have hnc17 := NB0_228.out
        have hcz18_0 : w7.cell? ⟨gb228, 0, none⟩ = some (.int .i64 a1_0) := (blk_cell BK228.out 0).trans rfl
        have hcz18_1 : w7.cell? ⟨gb228, 1, none⟩ = some (.int .i64 a1_1) := (blk_cell BK228.out 1).trans rfl
        have hcz18_2 : w7.cell? ⟨gb228, 2, none⟩ = some (.int .i64 a1_2) := (blk_cell BK228.out 2).trans rfl
        have hcz18_3 : w7.cell? ⟨gb228, 3, none⟩ = some (.int .i64 a1_3) := (blk_cell BK228.out 3).trans rfl
        have hcz18_4 : w7.cell? ⟨gb228, 4, none⟩ = some (.int .i64 a1_4) := (blk_cell BK228.out 4).trans rfl
        have hfz18_0 := blk_frozen BK228.out 0
        have hfz18_1 := blk_frozen BK228.out 1
        have hfz18_2 := blk_frozen BK228.out 2
        have hfz18_3 := blk_frozen BK228.out 3
        have hfz18_4 := blk_frozen BK228.out 4
        go_wp2_with (first | ((with_reducible refine gate_callee (f := 21) rfl ?_); refine goesL_ (some 10) rfl rfl Try.func21 (by kernel_rfl) rfl #[.agg #[.int .i64 a1_0, .int .i64 a1_1, .int .i64 a1_2, .int .i64 a1_3, .int .i64 a1_4]] rfl (by (try simp only [List.map_toArray, List.map_cons, List.map_nil]); first | done | rfl | (simp only [List.length_drop, List.length_take]; rfl)) ?_; (with_reducible refine (revenantref03_Check.calls k a1_0 a1_1 a1_2 a1_3 a1_4 t231 _ A12.out).mono ?_); rintro e w19 ⟨rfl, hb⟩; refine ⟨_, rfl, ?_⟩; have n0_ := Aside0.mk (IsS73.below (show IsS73 w0 ((((w7.setCell ⟨gb230, 0, none⟩ (.int .i64 0)).setCell ⟨gb230, 1, none⟩ (.int .u64 0)).setCell ⟨gb230, 2, none⟩ (.int .u64 0)).setCell ⟨gb230, 3, none⟩ (.int .i64 0)) g s0_0 from by repeat (first | (with_reducible first | exact HI0.out | apply IsS73.alloc | apply IsS73.drewN | apply IsS73.drew | apply IsS73.set_0 | refine IsS73.far ?_ NB0_228.out _ | refine IsS73.far ?_ NB0_229.out _ | refine IsS73.far ?_ NB0_230.out _) | exact HI0.out)) hb); have n1_ := Aside0.mk (blk_below (g := gb228) (o := .cells #[.int .i64 a1_0, .int .i64 a1_1, .int .i64 a1_2, .int .i64 a1_3, .int .i64 a1_4] 31 (0, 0)) (by (with_reducible repeat (first | refine blk_drewN ?_ _ | refine blk_drew ?_ | refine blk_alloc ?_ _)); refine blk_far ?_ NB228_230.out _; (with_reducible repeat (first | refine blk_drewN ?_ _ | refine blk_drew ?_ | refine blk_alloc ?_ _)); refine blk_far ?_ NB228_230.out _; (with_reducible repeat (first | refine blk_drewN ?_ _ | refine blk_drew ?_ | refine blk_alloc ?_ _)); refine blk_far ?_ NB228_230.out _; (with_reducible repeat (first | refine blk_drewN ?_ _ | refine blk_drew ?_ | refine blk_alloc ?_ _)); refine blk_far ?_ NB228_230.out _; (with_reducible repeat (first | refine blk_drewN ?_ _ | refine blk_drew ?_ | refine blk_alloc ?_ _)); exact BK228.out) hb); have n2_ := Aside0.mk (blk_below (g := gb229) (o := .cells #[.int .i64 0, .int .u64 0, .int .u64 0, .int .i64 0] 37 (0, 0)) (by (with_reducible repeat (first | refine blk_drewN ?_ _ | refine blk_drew ?_ | refine blk_alloc ?_ _)); refine blk_far ?_ NB229_230.out _; (with_reducible repeat (first | refine blk_drewN ?_ _ | refine blk_drew ?_ | refine blk_alloc ?_ _)); refine blk_far ?_ NB229_230.out _; (with_reducible repeat (first | refine blk_drewN ?_ _ | refine blk_drew ?_ | refine blk_alloc ?_ _)); refine blk_far ?_ NB229_230.out _; (with_reducible repeat (first | refine blk_drewN ?_ _ | refine blk_drew ?_ | refine blk_alloc ?_ _)); refine blk_far ?_ NB229_230.out _; (with_reducible repeat (first | refine blk_drewN ?_ _ | refine blk_drew ?_ | refine blk_alloc ?_ _)); exact BK229.out) hb); have n3_ := Aside0.mk (blk_below (g := gb230) (o := .cells #[.int .i64 0, .int .u64 0, .int .u64 0, .int .i64 0] 37 (0, 0)) (by (with_reducible repeat (first | refine blk_drewN ?_ _ | refine blk_drew ?_ | refine blk_alloc ?_ _)); refine blk_put (cs := #[.int .i64 0, .int .u64 0, .int .u64 0, .int .i64 0]) ?_ 3 _ rfl; (with_reducible repeat (first | refine blk_drewN ?_ _ | refine blk_drew ?_ | refine blk_alloc ?_ _)); refine blk_put (cs := #[.int .i64 0, .int .u64 0, .int .u64 0, .int .i64 0]) ?_ 2 _ rfl; (with_reducible repeat (first | refine blk_drewN ?_ _ | refine blk_drew ?_ | refine blk_alloc ?_ _)); refine blk_put (cs := #[.int .i64 0, .int .u64 0, .int .u64 0, .int .i64 0]) ?_ 1 _ rfl; (with_reducible repeat (first | refine blk_drewN ?_ _ | refine blk_drew ?_ | refine blk_alloc ?_ _)); refine blk_put (cs := #[.int .i64 0, .int .u64 0, .int .u64 0, .int .i64 0]) ?_ 0 _ rfl; (with_reducible repeat (first | refine blk_drewN ?_ _ | refine blk_drew ?_ | refine blk_alloc ?_ _)); exact BK230.out) hb); have n4_ := Aside0.mk (KeepBut.trans (by repeat (first | (with_reducible first | exact HK.out | apply KeepBut.set_ | apply keep_drewN | apply keep_drew | apply keep_alloc | refine keep_far ?_ GW228.out _ | refine keep_far ?_ GW229.out _ | refine keep_far ?_ GW230.out _) | exact HK.out)) (KeepBut.of_below hb g none) (.inl rfl)); have n5_ := Aside0.mk (below_step (by repeat (first | (with_reducible first | exact HB.out | apply below_alloc | apply pw_below_drewN | apply below_drew1 | refine below_set ?_ (IsS73.ge HI0.out) | refine below_set ?_ GE228.out | refine below_set ?_ GE229.out | refine below_set ?_ GE230.out) | exact HB.out)) hb); clear HI0; clear BK228; clear BK229; clear BK230; clear HK; clear HB; have HI0 := n0_; have BK228 := n1_; have BK229 := n2_; have BK230 := n3_; have HK := n4_; have HB := n5_; clear n0_ n1_ n2_ n3_ n4_ n5_; (try clear hb); (try clear hb2); (try clear hk); (try clear hi)))
        go_meet
        case rel => exact ⟨_, (true), (by first | rfl | (simp; done) | (simp [*]; done)), H', ⟨by first | omega | exact Nat.le_refl _⟩, ⟨by (with_reducible repeat (first | refine blk_drewN ?_ _ | refine blk_drew ?_ | refine blk_alloc ?_ _)); exact BK228.out⟩, ⟨by (with_reducible repeat (first | refine blk_drewN ?_ _ | refine blk_drew ?_ | refine blk_alloc ?_ _)); exact BK229.out⟩, ⟨by (with_reducible repeat (first | refine blk_drewN ?_ _ | refine blk_drew ?_ | refine blk_alloc ?_ _)); exact BK230.out⟩, ⟨by repeat (first | (with_reducible first | exact HI0.out | apply IsS73.alloc | apply IsS73.drewN | apply IsS73.drew | apply IsS73.set_0 | refine IsS73.far ?_ NB0_228.out _ | refine IsS73.far ?_ NB0_229.out _ | refine IsS73.far ?_ NB0_230.out _) | exact HI0.out)⟩, ⟨by repeat (first | (with_reducible first | exact HK.out | apply KeepBut.set_ | apply keep_drewN | apply keep_drew | apply keep_alloc | refine keep_far ?_ GW228.out _ | refine keep_far ?_ GW229.out _ | refine keep_far ?_ GW230.out _) | exact HK.out)⟩, ⟨by repeat (first | (with_reducible first | exact HB.out | apply below_alloc | apply pw_below_drewN | apply below_drew1 | refine below_set ?_ (IsS73.ge HI0.out) | refine below_set ?_ GE228.out | refine below_set ?_ GE229.out | refine below_set ?_ GE230.out) | exact HB.out)⟩⟩
      · rw [if_neg c14] at H
        have c14b0 : decide (a2 < 1) = false := decide_eq_false c14
        clear c14
        have H' := Aside0.mk H
        clear H
        have hnb20 := NB228_229.out
        have hnc20 := NB229_228.out
        have hnb21 := NB228_230.out
        have hnc21 := NB230_228.out
        have hnb22 := NB228_0.out
        have hnc22 := NB0_228.out
        have hcz23_0 : w7.cell? ⟨gb228, 0, none⟩ = some (.int .i64 a1_0) := (blk_cell BK228.out 0).trans rfl
        have hcz23_1 : w7.cell? ⟨gb228, 1, none⟩ = some (.int .i64 a1_1) := (blk_cell BK228.out 1).trans rfl
        have hcz23_2 : w7.cell? ⟨gb228, 2, none⟩ = some (.int .i64 a1_2) := (blk_cell BK228.out 2).trans rfl
        have hcz23_3 : w7.cell? ⟨gb228, 3, none⟩ = some (.int .i64 a1_3) := (blk_cell BK228.out 3).trans rfl
        have hcz23_4 : w7.cell? ⟨gb228, 4, none⟩ = some (.int .i64 a1_4) := (blk_cell BK228.out 4).trans rfl
        have hfz23_0 := blk_frozen BK228.out 0
        have hfz23_1 := blk_frozen BK228.out 1
        have hfz23_2 := blk_frozen BK228.out 2
        have hfz23_3 := blk_frozen BK228.out 3
        have hfz23_4 := blk_frozen BK228.out 4
        go_wp2_with (first | ((with_reducible refine gate_callee (f := 21) rfl ?_); refine goesL_ (some 10) rfl rfl Try.func21 (by kernel_rfl) rfl #[.agg #[.int .i64 a1_0, .int .i64 a1_1, .int .i64 a1_2, .int .i64 a1_3, .int .i64 a1_4]] rfl (by (try simp only [List.map_toArray, List.map_cons, List.map_nil]); first | done | rfl | (simp only [List.length_drop, List.length_take]; rfl)) ?_; (with_reducible refine (revenantref03_Check.calls k a1_0 a1_1 a1_2 a1_3 a1_4 t231 _ A12.out).mono ?_); rintro e w24 ⟨rfl, hb⟩; refine ⟨_, rfl, ?_⟩; have n0_ := Aside0.mk (IsS73.below (show IsS73 w0 ((((w7.setCell ⟨gb230, 0, none⟩ (.int .i64 0)).setCell ⟨gb230, 1, none⟩ (.int .u64 0)).setCell ⟨gb230, 2, none⟩ (.int .u64 0)).setCell ⟨gb230, 3, none⟩ (.int .i64 0)) g s0_0 from by repeat (first | (with_reducible first | exact HI0.out | apply IsS73.alloc | apply IsS73.drewN | apply IsS73.drew | apply IsS73.set_0 | refine IsS73.far ?_ NB0_228.out _ | refine IsS73.far ?_ NB0_229.out _ | refine IsS73.far ?_ NB0_230.out _) | exact HI0.out)) hb); have n1_ := Aside0.mk (blk_below (g := gb228) (o := .cells #[.int .i64 a1_0, .int .i64 a1_1, .int .i64 a1_2, .int .i64 a1_3, .int .i64 a1_4] 31 (0, 0)) (by (with_reducible repeat (first | refine blk_drewN ?_ _ | refine blk_drew ?_ | refine blk_alloc ?_ _)); refine blk_far ?_ NB228_230.out _; (with_reducible repeat (first | refine blk_drewN ?_ _ | refine blk_drew ?_ | refine blk_alloc ?_ _)); refine blk_far ?_ NB228_230.out _; (with_reducible repeat (first | refine blk_drewN ?_ _ | refine blk_drew ?_ | refine blk_alloc ?_ _)); refine blk_far ?_ NB228_230.out _; (with_reducible repeat (first | refine blk_drewN ?_ _ | refine blk_drew ?_ | refine blk_alloc ?_ _)); refine blk_far ?_ NB228_230.out _; (with_reducible repeat (first | refine blk_drewN ?_ _ | refine blk_drew ?_ | refine blk_alloc ?_ _)); exact BK228.out) hb); have n2_ := Aside0.mk (blk_below (g := gb229) (o := .cells #[.int .i64 0, .int .u64 0, .int .u64 0, .int .i64 0] 37 (0, 0)) (by (with_reducible repeat (first | refine blk_drewN ?_ _ | refine blk_drew ?_ | refine blk_alloc ?_ _)); refine blk_far ?_ NB229_230.out _; (with_reducible repeat (first | refine blk_drewN ?_ _ | refine blk_drew ?_ | refine blk_alloc ?_ _)); refine blk_far ?_ NB229_230.out _; (with_reducible repeat (first | refine blk_drewN ?_ _ | refine blk_drew ?_ | refine blk_alloc ?_ _)); refine blk_far ?_ NB229_230.out _; (with_reducible repeat (first | refine blk_drewN ?_ _ | refine blk_drew ?_ | refine blk_alloc ?_ _)); refine blk_far ?_ NB229_230.out _; (with_reducible repeat (first | refine blk_drewN ?_ _ | refine blk_drew ?_ | refine blk_alloc ?_ _)); exact BK229.out) hb); have n3_ := Aside0.mk (blk_below (g := gb230) (o := .cells #[.int .i64 0, .int .u64 0, .int .u64 0, .int .i64 0] 37 (0, 0)) (by (with_reducible repeat (first | refine blk_drewN ?_ _ | refine blk_drew ?_ | refine blk_alloc ?_ _)); refine blk_put (cs := #[.int .i64 0, .int .u64 0, .int .u64 0, .int .i64 0]) ?_ 3 _ rfl; (with_reducible repeat (first | refine blk_drewN ?_ _ | refine blk_drew ?_ | refine blk_alloc ?_ _)); refine blk_put (cs := #[.int .i64 0, .int .u64 0, .int .u64 0, .int .i64 0]) ?_ 2 _ rfl; (with_reducible repeat (first | refine blk_drewN ?_ _ | refine blk_drew ?_ | refine blk_alloc ?_ _)); refine blk_put (cs := #[.int .i64 0, .int .u64 0, .int .u64 0, .int .i64 0]) ?_ 1 _ rfl; (with_reducible repeat (first | refine blk_drewN ?_ _ | refine blk_drew ?_ | refine blk_alloc ?_ _)); refine blk_put (cs := #[.int .i64 0, .int .u64 0, .int .u64 0, .int .i64 0]) ?_ 0 _ rfl; (with_reducible repeat (first | refine blk_drewN ?_ _ | refine blk_drew ?_ | refine blk_alloc ?_ _)); exact BK230.out) hb); have n4_ := Aside0.mk (KeepBut.trans (by repeat (first | (with_reducible first | exact HK.out | apply KeepBut.set_ | apply keep_drewN | apply keep_drew | apply keep_alloc | refine keep_far ?_ GW228.out _ | refine keep_far ?_ GW229.out _ | refine keep_far ?_ GW230.out _) | exact HK.out)) (KeepBut.of_below hb g none) (.inl rfl)); have n5_ := Aside0.mk (below_step (by repeat (first | (with_reducible first | exact HB.out | apply below_alloc | apply pw_below_drewN | apply below_drew1 | refine below_set ?_ (IsS73.ge HI0.out) | refine below_set ?_ GE228.out | refine below_set ?_ GE229.out | refine below_set ?_ GE230.out) | exact HB.out)) hb); clear HI0; clear BK228; clear BK229; clear BK230; clear HK; clear HB; have HI0 := n0_; have BK228 := n1_; have BK229 := n2_; have BK230 := n3_; have HK := n4_; have HB := n5_; clear n0_ n1_ n2_ n3_ n4_ n5_; (try clear hb); (try clear hb2); (try clear hk); (try clear hi)))
        go_meet
        case rel => exact ⟨_, (decide (a2 > 2147483648)), (by first | rfl | (simp; done) | (simp [*]; done)), H', ⟨by first | omega | exact Nat.le_refl _⟩, ⟨by (with_reducible repeat (first | refine blk_drewN ?_ _ | refine blk_drew ?_ | refine blk_alloc ?_ _)); exact BK228.out⟩, ⟨by (with_reducible repeat (first | refine blk_drewN ?_ _ | refine blk_drew ?_ | refine blk_alloc ?_ _)); exact BK229.out⟩, ⟨by (with_reducible repeat (first | refine blk_drewN ?_ _ | refine blk_drew ?_ | refine blk_alloc ?_ _)); exact BK230.out⟩, ⟨by repeat (first | (with_reducible first | exact HI0.out | apply IsS73.alloc | apply IsS73.drewN | apply IsS73.drew | apply IsS73.set_0 | refine IsS73.far ?_ NB0_228.out _ | refine IsS73.far ?_ NB0_229.out _ | refine IsS73.far ?_ NB0_230.out _) | exact HI0.out)⟩, ⟨by repeat (first | (with_reducible first | exact HK.out | apply KeepBut.set_ | apply keep_drewN | apply keep_drew | apply keep_alloc | refine keep_far ?_ GW228.out _ | refine keep_far ?_ GW229.out _ | refine keep_far ?_ GW230.out _) | exact HK.out)⟩, ⟨by repeat (first | (with_reducible first | exact HB.out | apply below_alloc | apply pw_below_drewN | apply below_drew1 | refine below_set ?_ (IsS73.ge HI0.out) | refine below_set ?_ GE228.out | refine below_set ?_ GE229.out | refine below_set ?_ GE230.out) | exact HB.out)⟩⟩
    · rw [if_neg c13] at H
      have c13b0 : (t231 == 0) = false := beq_eq_false_iff_ne.mpr c13
      have c13b1 : (t231 != 0) = true := bne_iff_ne.mpr c13
      (first | rw [c13b0] | (simp only [i64_w, i32_w]; rw [c13b0]) | skip)
      have H' := Aside0.mk H
      clear H
      have hnb25 := NB228_229.out
      have hnc25 := NB229_228.out
      have hnb26 := NB228_230.out
      have hnc26 := NB230_228.out
      have hnb27 := NB228_0.out
      have hnc27 := NB0_228.out
      have hcz28_0 : w7.cell? ⟨gb228, 0, none⟩ = some (.int .i64 a1_0) := (blk_cell BK228.out 0).trans rfl
      have hcz28_1 : w7.cell? ⟨gb228, 1, none⟩ = some (.int .i64 a1_1) := (blk_cell BK228.out 1).trans rfl
      have hcz28_2 : w7.cell? ⟨gb228, 2, none⟩ = some (.int .i64 a1_2) := (blk_cell BK228.out 2).trans rfl
      have hcz28_3 : w7.cell? ⟨gb228, 3, none⟩ = some (.int .i64 a1_3) := (blk_cell BK228.out 3).trans rfl
      have hcz28_4 : w7.cell? ⟨gb228, 4, none⟩ = some (.int .i64 a1_4) := (blk_cell BK228.out 4).trans rfl
      have hfz28_0 := blk_frozen BK228.out 0
      have hfz28_1 := blk_frozen BK228.out 1
      have hfz28_2 := blk_frozen BK228.out 2
      have hfz28_3 := blk_frozen BK228.out 3
      have hfz28_4 := blk_frozen BK228.out 4
      go_wp2_with (first | ((with_reducible refine gate_callee (f := 21) rfl ?_); refine goesL_ (some 10) rfl rfl Try.func21 (by kernel_rfl) rfl #[.agg #[.int .i64 a1_0, .int .i64 a1_1, .int .i64 a1_2, .int .i64 a1_3, .int .i64 a1_4]] rfl (by (try simp only [List.map_toArray, List.map_cons, List.map_nil]); first | done | rfl | (simp only [List.length_drop, List.length_take]; rfl)) ?_; (with_reducible refine (revenantref03_Check.calls k a1_0 a1_1 a1_2 a1_3 a1_4 t231 _ A12.out).mono ?_); rintro e w29 ⟨rfl, hb⟩; refine ⟨_, rfl, ?_⟩; have n0_ := Aside0.mk (IsS73.below (show IsS73 w0 ((((w7.setCell ⟨gb230, 0, none⟩ (.int .i64 0)).setCell ⟨gb230, 1, none⟩ (.int .u64 0)).setCell ⟨gb230, 2, none⟩ (.int .u64 0)).setCell ⟨gb230, 3, none⟩ (.int .i64 0)) g s0_0 from by repeat (first | (with_reducible first | exact HI0.out | apply IsS73.alloc | apply IsS73.drewN | apply IsS73.drew | apply IsS73.set_0 | refine IsS73.far ?_ NB0_228.out _ | refine IsS73.far ?_ NB0_229.out _ | refine IsS73.far ?_ NB0_230.out _) | exact HI0.out)) hb); have n1_ := Aside0.mk (blk_below (g := gb228) (o := .cells #[.int .i64 a1_0, .int .i64 a1_1, .int .i64 a1_2, .int .i64 a1_3, .int .i64 a1_4] 31 (0, 0)) (by (with_reducible repeat (first | refine blk_drewN ?_ _ | refine blk_drew ?_ | refine blk_alloc ?_ _)); refine blk_far ?_ NB228_230.out _; (with_reducible repeat (first | refine blk_drewN ?_ _ | refine blk_drew ?_ | refine blk_alloc ?_ _)); refine blk_far ?_ NB228_230.out _; (with_reducible repeat (first | refine blk_drewN ?_ _ | refine blk_drew ?_ | refine blk_alloc ?_ _)); refine blk_far ?_ NB228_230.out _; (with_reducible repeat (first | refine blk_drewN ?_ _ | refine blk_drew ?_ | refine blk_alloc ?_ _)); refine blk_far ?_ NB228_230.out _; (with_reducible repeat (first | refine blk_drewN ?_ _ | refine blk_drew ?_ | refine blk_alloc ?_ _)); exact BK228.out) hb); have n2_ := Aside0.mk (blk_below (g := gb229) (o := .cells #[.int .i64 0, .int .u64 0, .int .u64 0, .int .i64 0] 37 (0, 0)) (by (with_reducible repeat (first | refine blk_drewN ?_ _ | refine blk_drew ?_ | refine blk_alloc ?_ _)); refine blk_far ?_ NB229_230.out _; (with_reducible repeat (first | refine blk_drewN ?_ _ | refine blk_drew ?_ | refine blk_alloc ?_ _)); refine blk_far ?_ NB229_230.out _; (with_reducible repeat (first | refine blk_drewN ?_ _ | refine blk_drew ?_ | refine blk_alloc ?_ _)); refine blk_far ?_ NB229_230.out _; (with_reducible repeat (first | refine blk_drewN ?_ _ | refine blk_drew ?_ | refine blk_alloc ?_ _)); refine blk_far ?_ NB229_230.out _; (with_reducible repeat (first | refine blk_drewN ?_ _ | refine blk_drew ?_ | refine blk_alloc ?_ _)); exact BK229.out) hb); have n3_ := Aside0.mk (blk_below (g := gb230) (o := .cells #[.int .i64 0, .int .u64 0, .int .u64 0, .int .i64 0] 37 (0, 0)) (by (with_reducible repeat (first | refine blk_drewN ?_ _ | refine blk_drew ?_ | refine blk_alloc ?_ _)); refine blk_put (cs := #[.int .i64 0, .int .u64 0, .int .u64 0, .int .i64 0]) ?_ 3 _ rfl; (with_reducible repeat (first | refine blk_drewN ?_ _ | refine blk_drew ?_ | refine blk_alloc ?_ _)); refine blk_put (cs := #[.int .i64 0, .int .u64 0, .int .u64 0, .int .i64 0]) ?_ 2 _ rfl; (with_reducible repeat (first | refine blk_drewN ?_ _ | refine blk_drew ?_ | refine blk_alloc ?_ _)); refine blk_put (cs := #[.int .i64 0, .int .u64 0, .int .u64 0, .int .i64 0]) ?_ 1 _ rfl; (with_reducible repeat (first | refine blk_drewN ?_ _ | refine blk_drew ?_ | refine blk_alloc ?_ _)); refine blk_put (cs := #[.int .i64 0, .int .u64 0, .int .u64 0, .int .i64 0]) ?_ 0 _ rfl; (with_reducible repeat (first | refine blk_drewN ?_ _ | refine blk_drew ?_ | refine blk_alloc ?_ _)); exact BK230.out) hb); have n4_ := Aside0.mk (KeepBut.trans (by repeat (first | (with_reducible first | exact HK.out | apply KeepBut.set_ | apply keep_drewN | apply keep_drew | apply keep_alloc | refine keep_far ?_ GW228.out _ | refine keep_far ?_ GW229.out _ | refine keep_far ?_ GW230.out _) | exact HK.out)) (KeepBut.of_below hb g none) (.inl rfl)); have n5_ := Aside0.mk (below_step (by repeat (first | (with_reducible first | exact HB.out | apply below_alloc | apply pw_below_drewN | apply below_drew1 | refine below_set ?_ (IsS73.ge HI0.out) | refine below_set ?_ GE228.out | refine below_set ?_ GE229.out | refine below_set ?_ GE230.out) | exact HB.out)) hb); clear HI0; clear BK228; clear BK229; clear BK230; clear HK; clear HB; have HI0 := n0_; have BK228 := n1_; have BK229 := n2_; have BK230 := n3_; have HK := n4_; have HB := n5_; clear n0_ n1_ n2_ n3_ n4_ n5_; (try clear hb); (try clear hb2); (try clear hk); (try clear hi)))
      go_meet
      case rel => exact ⟨_, (true), (by first | rfl | (simp; done) | (simp [*]; done)), H', ⟨by first | omega | exact Nat.le_refl _⟩, ⟨by (with_reducible repeat (first | refine blk_drewN ?_ _ | refine blk_drew ?_ | refine blk_alloc ?_ _)); exact BK228.out⟩, ⟨by (with_reducible repeat (first | refine blk_drewN ?_ _ | refine blk_drew ?_ | refine blk_alloc ?_ _)); exact BK229.out⟩, ⟨by (with_reducible repeat (first | refine blk_drewN ?_ _ | refine blk_drew ?_ | refine blk_alloc ?_ _)); exact BK230.out⟩, ⟨by repeat (first | (with_reducible first | exact HI0.out | apply IsS73.alloc | apply IsS73.drewN | apply IsS73.drew | apply IsS73.set_0 | refine IsS73.far ?_ NB0_228.out _ | refine IsS73.far ?_ NB0_229.out _ | refine IsS73.far ?_ NB0_230.out _) | exact HI0.out)⟩, ⟨by repeat (first | (with_reducible first | exact HK.out | apply KeepBut.set_ | apply keep_drewN | apply keep_drew | apply keep_alloc | refine keep_far ?_ GW228.out _ | refine keep_far ?_ GW229.out _ | refine keep_far ?_ GW230.out _) | exact HK.out)⟩, ⟨by repeat (first | (with_reducible first | exact HB.out | apply below_alloc | apply pw_below_drewN | apply below_drew1 | refine below_set ?_ (IsS73.ge HI0.out) | refine below_set ?_ GE228.out | refine below_set ?_ GE229.out | refine below_set ?_ GE230.out) | exact HB.out)⟩⟩
  case rest =>
    clear HC4
    try clear c1
    try clear c2
    try clear p2
    try clear c8
    try clear c9
    try clear c10
    try clear c13
    try clear c13b0
    try clear c13b1
    try clear c14
    try clear c14b0
    try clear c15
    try clear c16
    try clear c17
    try clear c20
    try clear c21
    try clear c22
    try clear c23
    try clear c25
    try clear c26
    try clear c27
    try clear hcz11_0
    try clear hcz11_1
    try clear hcz11_2
    try clear hcz11_3
    try clear hcz18_0
    try clear hcz18_1
    try clear hcz18_2
    try clear hcz18_3
    try clear hcz18_4
    try clear hcz23_0
    try clear hcz23_1
    try clear hcz23_2
    try clear hcz23_3
    try clear hcz23_4
    try clear hcz28_0
    try clear hcz28_1
    try clear hcz28_2
    try clear hcz28_3
    try clear hcz28_4
    try clear hfz11_0
    try clear hfz11_1
    try clear hfz11_2
    try clear hfz11_3
    try clear hfz18_0
    try clear hfz18_1
    try clear hfz18_2
    try clear hfz18_3
    try clear hfz18_4
    try clear hfz23_0
    try clear hfz23_1
    try clear hfz23_2
    try clear hfz23_3
    try clear hfz23_4
    try clear hfz28_0
    try clear hfz28_1
    try clear hfz28_2
    try clear hfz28_3
    try clear hfz28_4
    obtain ⟨kq, x19_3, rfl, HA, HJ3, BK228, BK229, BK230, HI0, HK, HB⟩ := hcut
    cases kq with
    | zero => exact absurd HA.out (by simp [revenantref34_Mint_Op.j0])
    | succ kj3 =>
      have H := HA.out
      clear HA
      simp only [revenantref34_Mint_Op.j0] at H
      by_cases c30 : x19_3 = true
      · subst c30
        have H1 : (some (0, 0, 0, 0, s0_0)) = some (r1, r2, r3, r4, r5) := by rw [if_pos rfl] at H; exact H
        clear H
        have H := H1
        clear H1
        simp only [Option.some.injEq, Prod.mk.injEq] at H
        obtain ⟨rfl, rfl, rfl, rfl, rfl⟩ := H
        have hnb31 := NB230_228.out
        have hnc31 := NB228_230.out
        have hnb32 := NB230_229.out
        have hnc32 := NB229_230.out
        have hnb33 := NB230_0.out
        have hnc33 := NB0_230.out
        have hcz34_0 : wc.cell? ⟨gb230, 0, none⟩ = some (.int .i64 0) := (blk_cell BK230.out 0).trans rfl
        have hcz34_1 : wc.cell? ⟨gb230, 1, none⟩ = some (.int .u64 0) := (blk_cell BK230.out 1).trans rfl
        have hcz34_2 : wc.cell? ⟨gb230, 2, none⟩ = some (.int .u64 0) := (blk_cell BK230.out 2).trans rfl
        have hcz34_3 : wc.cell? ⟨gb230, 3, none⟩ = some (.int .i64 0) := (blk_cell BK230.out 3).trans rfl
        have hfz34_0 := blk_frozen BK230.out 0
        have hfz34_1 := blk_frozen BK230.out 1
        have hfz34_2 := blk_frozen BK230.out 2
        have hfz34_3 := blk_frozen BK230.out 3
        have hnb35 := NB229_228.out
        have hnc35 := NB228_229.out
        have hnb36 := NB229_0.out
        have hnc36 := NB0_229.out
        have hcz37_0 : wc.cell? ⟨gb229, 0, none⟩ = some (.int .i64 0) := (blk_cell BK229.out 0).trans rfl
        have hcz37_1 : wc.cell? ⟨gb229, 1, none⟩ = some (.int .u64 0) := (blk_cell BK229.out 1).trans rfl
        have hcz37_2 : wc.cell? ⟨gb229, 2, none⟩ = some (.int .u64 0) := (blk_cell BK229.out 2).trans rfl
        have hcz37_3 : wc.cell? ⟨gb229, 3, none⟩ = some (.int .i64 0) := (blk_cell BK229.out 3).trans rfl
        have hfz37_0 := blk_frozen BK229.out 0
        have hfz37_1 := blk_frozen BK229.out 1
        have hfz37_2 := blk_frozen BK229.out 2
        have hfz37_3 := blk_frozen BK229.out 3
        go_wp2
        refine bodyPost_ret (results_cell_row rfl _ _ gb229 37 #[.int .i64 0, .int .u64 0, .int .u64 0, .int .i64 0] (0, 0) _ rfl (by (with_reducible repeat (first | refine blk_drewN ?_ _ | refine blk_drew ?_ | refine blk_alloc ?_ _)); refine blk_put (cs := #[.int .i64 0, .int .u64 0, .int .u64 0, .int .i64 0]) ?_ 3 _ rfl; (with_reducible repeat (first | refine blk_drewN ?_ _ | refine blk_drew ?_ | refine blk_alloc ?_ _)); refine blk_put (cs := #[.int .i64 0, .int .u64 0, .int .u64 0, .int .i64 0]) ?_ 2 _ rfl; (with_reducible repeat (first | refine blk_drewN ?_ _ | refine blk_drew ?_ | refine blk_alloc ?_ _)); refine blk_put (cs := #[.int .i64 0, .int .u64 0, .int .u64 0, .int .i64 0]) ?_ 1 _ rfl; (with_reducible repeat (first | refine blk_drewN ?_ _ | refine blk_drew ?_ | refine blk_alloc ?_ _)); refine blk_put (cs := #[.int .i64 0, .int .u64 0, .int .u64 0, .int .i64 0]) ?_ 0 _ rfl; (with_reducible repeat (first | refine blk_drewN ?_ _ | refine blk_drew ?_ | refine blk_alloc ?_ _)); exact BK229.out) Try.underlying37 rfl (by kernel_rfl)) rfl ?_
        exact ⟨by first | rfl | (simp [errW_none, errW_some] <;> rfl) | (simp [*, errW_none, errW_some] <;> rfl), by repeat (first | (with_reducible first | exact HI0.out | apply IsS73.alloc | apply IsS73.drewN | apply IsS73.drew | apply IsS73.set_0 | refine IsS73.far ?_ NB0_228.out _ | refine IsS73.far ?_ NB0_229.out _ | refine IsS73.far ?_ NB0_230.out _) | exact HI0.out), by repeat (first | (with_reducible first | exact HB.out | apply below_alloc | apply pw_below_drewN | apply below_drew1 | refine below_set ?_ (IsS73.ge HI0.out) | refine below_set ?_ GE228.out | refine below_set ?_ GE229.out | refine below_set ?_ GE230.out) | exact HB.out), by repeat (first | (with_reducible first | exact HK.out | apply KeepBut.set_ | apply keep_drewN | apply keep_drew | apply keep_alloc | refine keep_far ?_ GW228.out _ | refine keep_far ?_ GW229.out _ | refine keep_far ?_ GW230.out _) | exact HK.out)⟩
      · replace c30 := Bool.eq_false_iff.mpr c30
        subst c30
        have H1 : ((revenantref34_Mint_Below.f s0_0 16).bind fun bt232 => (if bt232.1 = 0 then (some (8, 0, 0, 0, bt232.2)) else (if a1_0 = 2 then ((revenantref34_Mint_Below.f bt232.2 4).bind fun bt234 => (revenantref34_Mint_Op.j1 kj3 a2 bt234.2 a1_0 a1_1 a1_2 a1_3 a1_4 (wrap64 (4 + bt234.1)) 0 0 0)) else ((revenantref34_Mint_Below.f bt232.2 3).bind fun bt236 => (revenantref34_Mint_Op.j1 kj3 a2 bt236.2 a1_0 a1_1 a1_2 a1_3 a1_4 (wrap64 (1 + bt236.1)) 0 0 0))))) = some (r1, r2, r3, r4, r5) := by rw [if_neg (show ¬ (false = true) by decide)] at H; exact H
        clear H
        have H := H1
        clear H1
        replace H := Option.bind_eq_some_iff.mp H
        obtain ⟨⟨t232, t233⟩, A380, H⟩ := H
        replace H : (if t232 = 0 then (some (8, 0, 0, 0, t233)) else (if a1_0 = 2 then ((revenantref34_Mint_Below.f t233 4).bind fun bt234 => (revenantref34_Mint_Op.j1 kj3 a2 bt234.2 a1_0 a1_1 a1_2 a1_3 a1_4 (wrap64 (4 + bt234.1)) 0 0 0)) else ((revenantref34_Mint_Below.f t233 3).bind fun bt236 => (revenantref34_Mint_Op.j1 kj3 a2 bt236.2 a1_0 a1_1 a1_2 a1_3 a1_4 (wrap64 (1 + bt236.1)) 0 0 0)))) = some (r1, r2, r3, r4, r5) := H
        have A38 := Aside0.mk A380
        clear A380
        by_cases c39 : t232 = 0
        · rw [if_pos c39] at H
          have c39b0 : (t232 == 0) = true := beq_iff_eq.mpr c39
          have c39b1 : (t232 != 0) = false := bne_eq_false_iff_eq.mpr c39
          clear c39
          simp only [Option.some.injEq, Prod.mk.injEq] at H
          obtain ⟨rfl, rfl, rfl, rfl, rfl⟩ := H
          go_wp2_with (first | ((with_reducible refine gate_callee (f := 36) rfl ?_); refine goesL_ (some 22) rfl rfl Try.func36 (by kernel_rfl) rfl #[.pointer (some ⟨g, 0, none⟩), .int .i64 16] rfl (by (try simp only [List.map_toArray, List.map_cons, List.map_nil]); first | done | rfl | (simp only [List.length_drop, List.length_take]; rfl)) ?_; (with_reducible refine (revenantref34_Mint_Below.calls g s0_0 16 t232 t233 w0 _ ?side1 ?side2 A38.out).mono ?_); (case side1 => repeat (first | (with_reducible first | exact HI0.out | apply IsS73.alloc | apply IsS73.drewN | apply IsS73.drew | apply IsS73.set_0 | refine IsS73.far ?_ NB0_228.out _ | refine IsS73.far ?_ NB0_229.out _ | refine IsS73.far ?_ NB0_230.out _) | exact HI0.out)); (case side2 => repeat (first | (with_reducible first | exact HB.out | apply below_alloc | apply pw_below_drewN | apply below_drew1 | refine below_set ?_ (IsS73.ge HI0.out) | refine below_set ?_ GE228.out | refine below_set ?_ GE229.out | refine below_set ?_ GE230.out) | exact HB.out)); rintro e w40 ⟨rfl, hi, hb, hk⟩; refine ⟨_, rfl, ?_⟩; have n0_ := Aside0.mk (KeepBut.blk hk (g' := gb228) (o := .cells #[.int .i64 a1_0, .int .i64 a1_1, .int .i64 a1_2, .int .i64 a1_3, .int .i64 a1_4] 31 (0, 0)) (by (with_reducible repeat (first | refine blk_drewN ?_ _ | refine blk_drew ?_ | refine blk_alloc ?_ _)); exact BK228.out) NB228_0.out (by simp)); have n1_ := Aside0.mk (KeepBut.blk hk (g' := gb229) (o := .cells #[.int .i64 0, .int .u64 0, .int .u64 0, .int .i64 0] 37 (0, 0)) (by (with_reducible repeat (first | refine blk_drewN ?_ _ | refine blk_drew ?_ | refine blk_alloc ?_ _)); exact BK229.out) NB229_0.out (by simp)); have n2_ := Aside0.mk (KeepBut.blk hk (g' := gb230) (o := .cells #[.int .i64 0, .int .u64 0, .int .u64 0, .int .i64 0] 37 (0, 0)) (by (with_reducible repeat (first | refine blk_drewN ?_ _ | refine blk_drew ?_ | refine blk_alloc ?_ _)); exact BK230.out) NB230_0.out (by simp)); have n3_ := Aside0.mk (KeepBut.trans (by repeat (first | (with_reducible first | exact HK.out | apply KeepBut.set_ | apply keep_drewN | apply keep_drew | apply keep_alloc | refine keep_far ?_ GW228.out _ | refine keep_far ?_ GW229.out _ | refine keep_far ?_ GW230.out _) | exact HK.out)) hk (.inl rfl)); have n4_ := Aside0.mk (hb); have n5_ := Aside0.mk (hi); clear BK228; clear BK229; clear BK230; clear HK; clear HB; clear HI0; have BK228 := n0_; have BK229 := n1_; have BK230 := n2_; have HK := n3_; have HB := n4_; have HI0 := n5_; clear n0_ n1_ n2_ n3_ n4_ n5_; (try clear hb); (try clear hb2); (try clear hk); (try clear hi); have hnb41 := NB230_228.out; have hnc41 := NB228_230.out; have hnb42 := NB230_229.out; have hnc42 := NB229_230.out; have hnb43 := NB230_0.out; have hnc43 := NB0_230.out; have hcz44_0 : w40.cell? ⟨gb230, 0, none⟩ = some (.int .i64 0) := (blk_cell BK230.out 0).trans rfl; have hcz44_1 : w40.cell? ⟨gb230, 1, none⟩ = some (.int .u64 0) := (blk_cell BK230.out 1).trans rfl; have hcz44_2 : w40.cell? ⟨gb230, 2, none⟩ = some (.int .u64 0) := (blk_cell BK230.out 2).trans rfl; have hcz44_3 : w40.cell? ⟨gb230, 3, none⟩ = some (.int .i64 0) := (blk_cell BK230.out 3).trans rfl; have hfz44_0 := blk_frozen BK230.out 0; have hfz44_1 := blk_frozen BK230.out 1; have hfz44_2 := blk_frozen BK230.out 2; have hfz44_3 := blk_frozen BK230.out 3; have hnb45 := NB229_228.out; have hnc45 := NB228_229.out; have hnb46 := NB229_0.out; have hnc46 := NB0_229.out; have hcz47_0 : w40.cell? ⟨gb229, 0, none⟩ = some (.int .i64 0) := (blk_cell BK229.out 0).trans rfl; have hcz47_1 : w40.cell? ⟨gb229, 1, none⟩ = some (.int .u64 0) := (blk_cell BK229.out 1).trans rfl; have hcz47_2 : w40.cell? ⟨gb229, 2, none⟩ = some (.int .u64 0) := (blk_cell BK229.out 2).trans rfl; have hcz47_3 : w40.cell? ⟨gb229, 3, none⟩ = some (.int .i64 0) := (blk_cell BK229.out 3).trans rfl; have hfz47_0 := blk_frozen BK229.out 0; have hfz47_1 := blk_frozen BK229.out 1; have hfz47_2 := blk_frozen BK229.out 2; have hfz47_3 := blk_frozen BK229.out 3))
          refine bodyPost_ret (results_cell_row rfl _ _ gb229 37 #[.int .i64 8, .int .u64 0, .int .u64 0, .int .i64 0] (0, 0) _ rfl (by (with_reducible repeat (first | refine blk_drewN ?_ _ | refine blk_drew ?_ | refine blk_alloc ?_ _)); refine blk_put (cs := #[.int .i64 8, .int .u64 0, .int .u64 0, .int .i64 0]) ?_ 3 _ rfl; (with_reducible repeat (first | refine blk_drewN ?_ _ | refine blk_drew ?_ | refine blk_alloc ?_ _)); refine blk_put (cs := #[.int .i64 8, .int .u64 0, .int .u64 0, .int .i64 0]) ?_ 2 _ rfl; (with_reducible repeat (first | refine blk_drewN ?_ _ | refine blk_drew ?_ | refine blk_alloc ?_ _)); refine blk_put (cs := #[.int .i64 8, .int .u64 0, .int .u64 0, .int .i64 0]) ?_ 1 _ rfl; (with_reducible repeat (first | refine blk_drewN ?_ _ | refine blk_drew ?_ | refine blk_alloc ?_ _)); refine blk_put (cs := #[.int .i64 0, .int .u64 0, .int .u64 0, .int .i64 0]) ?_ 0 _ rfl; (with_reducible repeat (first | refine blk_drewN ?_ _ | refine blk_drew ?_ | refine blk_alloc ?_ _)); refine blk_far ?_ NB229_230.out _; (with_reducible repeat (first | refine blk_drewN ?_ _ | refine blk_drew ?_ | refine blk_alloc ?_ _)); exact BK229.out) Try.underlying37 rfl (by kernel_rfl)) rfl ?_
          exact ⟨by first | rfl | (simp [errW_none, errW_some] <;> rfl) | (simp [*, errW_none, errW_some] <;> rfl), by repeat (first | (with_reducible first | exact HI0.out | apply IsS73.alloc | apply IsS73.drewN | apply IsS73.drew | apply IsS73.set_0 | refine IsS73.far ?_ NB0_228.out _ | refine IsS73.far ?_ NB0_229.out _ | refine IsS73.far ?_ NB0_230.out _) | exact HI0.out), by repeat (first | (with_reducible first | exact HB.out | apply below_alloc | apply pw_below_drewN | apply below_drew1 | refine below_set ?_ (IsS73.ge HI0.out) | refine below_set ?_ GE228.out | refine below_set ?_ GE229.out | refine below_set ?_ GE230.out) | exact HB.out), by repeat (first | (with_reducible first | exact HK.out | apply KeepBut.set_ | apply keep_drewN | apply keep_drew | apply keep_alloc | refine keep_far ?_ GW228.out _ | refine keep_far ?_ GW229.out _ | refine keep_far ?_ GW230.out _) | exact HK.out)⟩
        · rw [if_neg c39] at H
          have c39b0 : (t232 == 0) = false := beq_eq_false_iff_ne.mpr c39
          have c39b1 : (t232 != 0) = true := bne_iff_ne.mpr c39
          have HC48 := Aside0.mk H
          clear H
          go_upto_if 28 with (first | ((with_reducible refine gate_callee (f := 36) rfl ?_); refine goesL_ (some 22) rfl rfl Try.func36 (by kernel_rfl) rfl #[.pointer (some ⟨g, 0, none⟩), .int .i64 16] rfl (by (try simp only [List.map_toArray, List.map_cons, List.map_nil]); first | done | rfl | (simp only [List.length_drop, List.length_take]; rfl)) ?_; (with_reducible refine (revenantref34_Mint_Below.calls g s0_0 16 t232 t233 w0 _ ?side1 ?side2 A38.out).mono ?_); (case side1 => repeat (first | (with_reducible first | exact HI0.out | apply IsS73.alloc | apply IsS73.drewN | apply IsS73.drew | apply IsS73.set_0 | refine IsS73.far ?_ NB0_228.out _ | refine IsS73.far ?_ NB0_229.out _ | refine IsS73.far ?_ NB0_230.out _) | exact HI0.out)); (case side2 => repeat (first | (with_reducible first | exact HB.out | apply below_alloc | apply pw_below_drewN | apply below_drew1 | refine below_set ?_ (IsS73.ge HI0.out) | refine below_set ?_ GE228.out | refine below_set ?_ GE229.out | refine below_set ?_ GE230.out) | exact HB.out)); rintro e w49 ⟨rfl, hi, hb, hk⟩; refine ⟨_, rfl, ?_⟩; have n0_ := Aside0.mk (KeepBut.blk hk (g' := gb228) (o := .cells #[.int .i64 a1_0, .int .i64 a1_1, .int .i64 a1_2, .int .i64 a1_3, .int .i64 a1_4] 31 (0, 0)) (by (with_reducible repeat (first | refine blk_drewN ?_ _ | refine blk_drew ?_ | refine blk_alloc ?_ _)); exact BK228.out) NB228_0.out (by simp)); have n1_ := Aside0.mk (KeepBut.blk hk (g' := gb229) (o := .cells #[.int .i64 0, .int .u64 0, .int .u64 0, .int .i64 0] 37 (0, 0)) (by (with_reducible repeat (first | refine blk_drewN ?_ _ | refine blk_drew ?_ | refine blk_alloc ?_ _)); exact BK229.out) NB229_0.out (by simp)); have n2_ := Aside0.mk (KeepBut.blk hk (g' := gb230) (o := .cells #[.int .i64 0, .int .u64 0, .int .u64 0, .int .i64 0] 37 (0, 0)) (by (with_reducible repeat (first | refine blk_drewN ?_ _ | refine blk_drew ?_ | refine blk_alloc ?_ _)); exact BK230.out) NB230_0.out (by simp)); have n3_ := Aside0.mk (KeepBut.trans (by repeat (first | (with_reducible first | exact HK.out | apply KeepBut.set_ | apply keep_drewN | apply keep_drew | apply keep_alloc | refine keep_far ?_ GW228.out _ | refine keep_far ?_ GW229.out _ | refine keep_far ?_ GW230.out _) | exact HK.out)) hk (.inl rfl)); have n4_ := Aside0.mk (hb); have n5_ := Aside0.mk (hi); clear BK228; clear BK229; clear BK230; clear HK; clear HB; clear HI0; have BK228 := n0_; have BK229 := n1_; have BK230 := n2_; have HK := n3_; have HB := n4_; have HI0 := n5_; clear n0_ n1_ n2_ n3_ n4_ n5_; (try clear hb); (try clear hb2); (try clear hk); (try clear hi); have hnb50 := NB228_229.out; have hnc50 := NB229_228.out; have hnb51 := NB228_230.out; have hnc51 := NB230_228.out; have hnb52 := NB228_0.out; have hnc52 := NB0_228.out; have hcz53_0 : w49.cell? ⟨gb228, 0, none⟩ = some (.int .i64 a1_0) := (blk_cell BK228.out 0).trans rfl; have hcz53_1 : w49.cell? ⟨gb228, 1, none⟩ = some (.int .i64 a1_1) := (blk_cell BK228.out 1).trans rfl; have hcz53_2 : w49.cell? ⟨gb228, 2, none⟩ = some (.int .i64 a1_2) := (blk_cell BK228.out 2).trans rfl; have hcz53_3 : w49.cell? ⟨gb228, 3, none⟩ = some (.int .i64 a1_3) := (blk_cell BK228.out 3).trans rfl; have hcz53_4 : w49.cell? ⟨gb228, 4, none⟩ = some (.int .i64 a1_4) := (blk_cell BK228.out 4).trans rfl; have hfz53_0 := blk_frozen BK228.out 0; have hfz53_1 := blk_frozen BK228.out 1; have hfz53_2 := blk_frozen BK228.out 2; have hfz53_3 := blk_frozen BK228.out 3; have hfz53_4 := blk_frozen BK228.out 4))
          (try simp only [Act.put, List.setIfInBounds_toArray, List.set_cons_zero, List.set_cons_succ])
          go_cut [] (fun wc => ∃ (kq : Nat) (x1000_47 : Int) (x231000_47 : Int), Aside0 (revenantref34_Mint_Op.j1 kq a2 x1000_47 a1_0 a1_1 a1_2 a1_3 a1_4 x231000_47 0 0 0 = some (r1, r2, r3, r4, r5)) ∧ Aside0 (kq ≤ kj3) ∧ Aside0 (wc.heap[gb228]? = some (.cells #[.int .i64 a1_0, .int .i64 a1_1, .int .i64 a1_2, .int .i64 a1_3, .int .i64 a1_4] 31 (0, 0))) ∧ Aside0 (wc.heap[gb229]? = some (.cells #[.int .i64 0, .int .u64 0, .int .u64 0, .int .i64 0] 37 (0, 0))) ∧ Aside0 (wc.heap[gb230]? = some (.cells #[.int .i64 x231000_47, .int .u64 0, .int .u64 0, .int .i64 0] 37 (0, 0))) ∧ Aside0 (IsS73 w0 wc g x1000_47) ∧ Aside0 (KeepBut w wc g none) ∧ Aside0 (Below w0.heap.size w0 wc))
          case first =>
            have H := HC48.out
            clear HC48
            by_cases c54 : a1_0 = 2
            · rw [if_pos c54] at H
              have c54b0 : (a1_0 == 2) = true := beq_iff_eq.mpr c54
              have c54b1 : (a1_0 != 2) = false := bne_eq_false_iff_eq.mpr c54
              clear c54
              (first | rw [c54b0] | (simp only [i64_w, i32_w]; rw [c54b0]) | skip)
              replace H := Option.bind_eq_some_iff.mp H
              obtain ⟨⟨t234, t235⟩, A550, H⟩ := H
              replace H : (revenantref34_Mint_Op.j1 kj3 a2 t235 a1_0 a1_1 a1_2 a1_3 a1_4 (wrap64 (4 + t234)) 0 0 0) = some (r1, r2, r3, r4, r5) := H
              have A55 := Aside0.mk A550
              clear A550
              have H' := Aside0.mk H
              clear H
              go_wp2_with (first | ((with_reducible refine gate_callee (f := 36) rfl ?_); refine goesL_ (some 30) rfl rfl Try.func36 (by kernel_rfl) rfl #[.pointer (some ⟨g, 0, none⟩), .int .i64 4] rfl (by (try simp only [List.map_toArray, List.map_cons, List.map_nil]); first | done | rfl | (simp only [List.length_drop, List.length_take]; rfl)) ?_; (with_reducible refine (revenantref34_Mint_Below.calls g t233 4 t234 t235 w0 _ ?side1 ?side2 A55.out).mono ?_); (case side1 => repeat (first | (with_reducible first | exact HI0.out | apply IsS73.alloc | apply IsS73.drewN | apply IsS73.drew | apply IsS73.set_0 | refine IsS73.far ?_ NB0_228.out _ | refine IsS73.far ?_ NB0_229.out _ | refine IsS73.far ?_ NB0_230.out _) | exact HI0.out)); (case side2 => repeat (first | (with_reducible first | exact HB.out | apply below_alloc | apply pw_below_drewN | apply below_drew1 | refine below_set ?_ (IsS73.ge HI0.out) | refine below_set ?_ GE228.out | refine below_set ?_ GE229.out | refine below_set ?_ GE230.out) | exact HB.out)); rintro e w56 ⟨rfl, hi, hb, hk⟩; refine ⟨_, rfl, ?_⟩; have n0_ := Aside0.mk (KeepBut.blk hk (g' := gb228) (o := .cells #[.int .i64 a1_0, .int .i64 a1_1, .int .i64 a1_2, .int .i64 a1_3, .int .i64 a1_4] 31 (0, 0)) (by (with_reducible repeat (first | refine blk_drewN ?_ _ | refine blk_drew ?_ | refine blk_alloc ?_ _)); exact BK228.out) NB228_0.out (by simp)); have n1_ := Aside0.mk (KeepBut.blk hk (g' := gb229) (o := .cells #[.int .i64 0, .int .u64 0, .int .u64 0, .int .i64 0] 37 (0, 0)) (by (with_reducible repeat (first | refine blk_drewN ?_ _ | refine blk_drew ?_ | refine blk_alloc ?_ _)); exact BK229.out) NB229_0.out (by simp)); have n2_ := Aside0.mk (KeepBut.blk hk (g' := gb230) (o := .cells #[.int .i64 0, .int .u64 0, .int .u64 0, .int .i64 0] 37 (0, 0)) (by (with_reducible repeat (first | refine blk_drewN ?_ _ | refine blk_drew ?_ | refine blk_alloc ?_ _)); exact BK230.out) NB230_0.out (by simp)); have n3_ := Aside0.mk (KeepBut.trans (by repeat (first | (with_reducible first | exact HK.out | apply KeepBut.set_ | apply keep_drewN | apply keep_drew | apply keep_alloc | refine keep_far ?_ GW228.out _ | refine keep_far ?_ GW229.out _ | refine keep_far ?_ GW230.out _) | exact HK.out)) hk (.inl rfl)); have n4_ := Aside0.mk (hb); have n5_ := Aside0.mk (hi); clear BK228; clear BK229; clear BK230; clear HK; clear HB; clear HI0; have BK228 := n0_; have BK229 := n1_; have BK230 := n2_; have HK := n3_; have HB := n4_; have HI0 := n5_; clear n0_ n1_ n2_ n3_ n4_ n5_; (try clear hb); (try clear hb2); (try clear hk); (try clear hi); have hnb57 := NB230_228.out; have hnc57 := NB228_230.out; have hnb58 := NB230_229.out; have hnc58 := NB229_230.out; have hnb59 := NB230_0.out; have hnc59 := NB0_230.out; have hcz60_0 : w56.cell? ⟨gb230, 0, none⟩ = some (.int .i64 0) := (blk_cell BK230.out 0).trans rfl; have hcz60_1 : w56.cell? ⟨gb230, 1, none⟩ = some (.int .u64 0) := (blk_cell BK230.out 1).trans rfl; have hcz60_2 : w56.cell? ⟨gb230, 2, none⟩ = some (.int .u64 0) := (blk_cell BK230.out 2).trans rfl; have hcz60_3 : w56.cell? ⟨gb230, 3, none⟩ = some (.int .i64 0) := (blk_cell BK230.out 3).trans rfl; have hfz60_0 := blk_frozen BK230.out 0; have hfz60_1 := blk_frozen BK230.out 1; have hfz60_2 := blk_frozen BK230.out 2; have hfz60_3 := blk_frozen BK230.out 3))
              go_meet
              case rel => exact ⟨_, (t235), (wrap64 (4 + t234)), H', ⟨by have := HJ3.out; first | omega | exact Nat.le_refl _⟩, ⟨by (with_reducible repeat (first | refine blk_drewN ?_ _ | refine blk_drew ?_ | refine blk_alloc ?_ _)); refine blk_far ?_ NB228_230.out _; (with_reducible repeat (first | refine blk_drewN ?_ _ | refine blk_drew ?_ | refine blk_alloc ?_ _)); exact BK228.out⟩, ⟨by (with_reducible repeat (first | refine blk_drewN ?_ _ | refine blk_drew ?_ | refine blk_alloc ?_ _)); refine blk_far ?_ NB229_230.out _; (with_reducible repeat (first | refine blk_drewN ?_ _ | refine blk_drew ?_ | refine blk_alloc ?_ _)); exact BK229.out⟩, ⟨by (with_reducible repeat (first | refine blk_drewN ?_ _ | refine blk_drew ?_ | refine blk_alloc ?_ _)); refine blk_put (cs := #[.int .i64 0, .int .u64 0, .int .u64 0, .int .i64 0]) ?_ 0 _ rfl; (with_reducible repeat (first | refine blk_drewN ?_ _ | refine blk_drew ?_ | refine blk_alloc ?_ _)); exact BK230.out⟩, ⟨by repeat (first | (with_reducible first | exact HI0.out | apply IsS73.alloc | apply IsS73.drewN | apply IsS73.drew | apply IsS73.set_0 | refine IsS73.far ?_ NB0_228.out _ | refine IsS73.far ?_ NB0_229.out _ | refine IsS73.far ?_ NB0_230.out _) | exact HI0.out)⟩, ⟨by repeat (first | (with_reducible first | exact HK.out | apply KeepBut.set_ | apply keep_drewN | apply keep_drew | apply keep_alloc | refine keep_far ?_ GW228.out _ | refine keep_far ?_ GW229.out _ | refine keep_far ?_ GW230.out _) | exact HK.out)⟩, ⟨by repeat (first | (with_reducible first | exact HB.out | apply below_alloc | apply pw_below_drewN | apply below_drew1 | refine below_set ?_ (IsS73.ge HI0.out) | refine below_set ?_ GE228.out | refine below_set ?_ GE229.out | refine below_set ?_ GE230.out) | exact HB.out)⟩⟩
            · rw [if_neg c54] at H
              have c54b0 : (a1_0 == 2) = false := beq_eq_false_iff_ne.mpr c54
              have c54b1 : (a1_0 != 2) = true := bne_iff_ne.mpr c54
              (first | rw [c54b0] | (simp only [i64_w, i32_w]; rw [c54b0]) | skip)
              replace H := Option.bind_eq_some_iff.mp H
              obtain ⟨⟨t236, t237⟩, A610, H⟩ := H
              replace H : (revenantref34_Mint_Op.j1 kj3 a2 t237 a1_0 a1_1 a1_2 a1_3 a1_4 (wrap64 (1 + t236)) 0 0 0) = some (r1, r2, r3, r4, r5) := H
              have A61 := Aside0.mk A610
              clear A610
              have H' := Aside0.mk H
              clear H
              go_wp2_with (first | ((with_reducible refine gate_callee (f := 36) rfl ?_); refine goesL_ (some 34) rfl rfl Try.func36 (by kernel_rfl) rfl #[.pointer (some ⟨g, 0, none⟩), .int .i64 3] rfl (by (try simp only [List.map_toArray, List.map_cons, List.map_nil]); first | done | rfl | (simp only [List.length_drop, List.length_take]; rfl)) ?_; (with_reducible refine (revenantref34_Mint_Below.calls g t233 3 t236 t237 w0 _ ?side1 ?side2 A61.out).mono ?_); (case side1 => repeat (first | (with_reducible first | exact HI0.out | apply IsS73.alloc | apply IsS73.drewN | apply IsS73.drew | apply IsS73.set_0 | refine IsS73.far ?_ NB0_228.out _ | refine IsS73.far ?_ NB0_229.out _ | refine IsS73.far ?_ NB0_230.out _) | exact HI0.out)); (case side2 => repeat (first | (with_reducible first | exact HB.out | apply below_alloc | apply pw_below_drewN | apply below_drew1 | refine below_set ?_ (IsS73.ge HI0.out) | refine below_set ?_ GE228.out | refine below_set ?_ GE229.out | refine below_set ?_ GE230.out) | exact HB.out)); rintro e w62 ⟨rfl, hi, hb, hk⟩; refine ⟨_, rfl, ?_⟩; have n0_ := Aside0.mk (KeepBut.blk hk (g' := gb228) (o := .cells #[.int .i64 a1_0, .int .i64 a1_1, .int .i64 a1_2, .int .i64 a1_3, .int .i64 a1_4] 31 (0, 0)) (by (with_reducible repeat (first | refine blk_drewN ?_ _ | refine blk_drew ?_ | refine blk_alloc ?_ _)); exact BK228.out) NB228_0.out (by simp)); have n1_ := Aside0.mk (KeepBut.blk hk (g' := gb229) (o := .cells #[.int .i64 0, .int .u64 0, .int .u64 0, .int .i64 0] 37 (0, 0)) (by (with_reducible repeat (first | refine blk_drewN ?_ _ | refine blk_drew ?_ | refine blk_alloc ?_ _)); exact BK229.out) NB229_0.out (by simp)); have n2_ := Aside0.mk (KeepBut.blk hk (g' := gb230) (o := .cells #[.int .i64 0, .int .u64 0, .int .u64 0, .int .i64 0] 37 (0, 0)) (by (with_reducible repeat (first | refine blk_drewN ?_ _ | refine blk_drew ?_ | refine blk_alloc ?_ _)); exact BK230.out) NB230_0.out (by simp)); have n3_ := Aside0.mk (KeepBut.trans (by repeat (first | (with_reducible first | exact HK.out | apply KeepBut.set_ | apply keep_drewN | apply keep_drew | apply keep_alloc | refine keep_far ?_ GW228.out _ | refine keep_far ?_ GW229.out _ | refine keep_far ?_ GW230.out _) | exact HK.out)) hk (.inl rfl)); have n4_ := Aside0.mk (hb); have n5_ := Aside0.mk (hi); clear BK228; clear BK229; clear BK230; clear HK; clear HB; clear HI0; have BK228 := n0_; have BK229 := n1_; have BK230 := n2_; have HK := n3_; have HB := n4_; have HI0 := n5_; clear n0_ n1_ n2_ n3_ n4_ n5_; (try clear hb); (try clear hb2); (try clear hk); (try clear hi); have hnb63 := NB230_228.out; have hnc63 := NB228_230.out; have hnb64 := NB230_229.out; have hnc64 := NB229_230.out; have hnb65 := NB230_0.out; have hnc65 := NB0_230.out; have hcz66_0 : w62.cell? ⟨gb230, 0, none⟩ = some (.int .i64 0) := (blk_cell BK230.out 0).trans rfl; have hcz66_1 : w62.cell? ⟨gb230, 1, none⟩ = some (.int .u64 0) := (blk_cell BK230.out 1).trans rfl; have hcz66_2 : w62.cell? ⟨gb230, 2, none⟩ = some (.int .u64 0) := (blk_cell BK230.out 2).trans rfl; have hcz66_3 : w62.cell? ⟨gb230, 3, none⟩ = some (.int .i64 0) := (blk_cell BK230.out 3).trans rfl; have hfz66_0 := blk_frozen BK230.out 0; have hfz66_1 := blk_frozen BK230.out 1; have hfz66_2 := blk_frozen BK230.out 2; have hfz66_3 := blk_frozen BK230.out 3))
              go_meet
              case rel => exact ⟨_, (t237), (wrap64 (1 + t236)), H', ⟨by have := HJ3.out; first | omega | exact Nat.le_refl _⟩, ⟨by (with_reducible repeat (first | refine blk_drewN ?_ _ | refine blk_drew ?_ | refine blk_alloc ?_ _)); refine blk_far ?_ NB228_230.out _; (with_reducible repeat (first | refine blk_drewN ?_ _ | refine blk_drew ?_ | refine blk_alloc ?_ _)); exact BK228.out⟩, ⟨by (with_reducible repeat (first | refine blk_drewN ?_ _ | refine blk_drew ?_ | refine blk_alloc ?_ _)); refine blk_far ?_ NB229_230.out _; (with_reducible repeat (first | refine blk_drewN ?_ _ | refine blk_drew ?_ | refine blk_alloc ?_ _)); exact BK229.out⟩, ⟨by (with_reducible repeat (first | refine blk_drewN ?_ _ | refine blk_drew ?_ | refine blk_alloc ?_ _)); refine blk_put (cs := #[.int .i64 0, .int .u64 0, .int .u64 0, .int .i64 0]) ?_ 0 _ rfl; (with_reducible repeat (first | refine blk_drewN ?_ _ | refine blk_drew ?_ | refine blk_alloc ?_ _)); exact BK230.out⟩, ⟨by repeat (first | (with_reducible first | exact HI0.out | apply IsS73.alloc | apply IsS73.drewN | apply IsS73.drew | apply IsS73.set_0 | refine IsS73.far ?_ NB0_228.out _ | refine IsS73.far ?_ NB0_229.out _ | refine IsS73.far ?_ NB0_230.out _) | exact HI0.out)⟩, ⟨by repeat (first | (with_reducible first | exact HK.out | apply KeepBut.set_ | apply keep_drewN | apply keep_drew | apply keep_alloc | refine keep_far ?_ GW228.out _ | refine keep_far ?_ GW229.out _ | refine keep_far ?_ GW230.out _) | exact HK.out)⟩, ⟨by repeat (first | (with_reducible first | exact HB.out | apply below_alloc | apply pw_below_drewN | apply below_drew1 | refine below_set ?_ (IsS73.ge HI0.out) | refine below_set ?_ GE228.out | refine below_set ?_ GE229.out | refine below_set ?_ GE230.out) | exact HB.out)⟩⟩
          case rest =>
            clear HC48
            try clear c1
            try clear c2
            try clear p2
            try clear c3
            try clear c4
            try clear c5
            try clear c6
            try clear p6
            try clear c8
            try clear c9
            try clear c10
            try clear c13
            try clear c13b0
            try clear c13b1
            try clear c14
            try clear c14b0
            try clear c15
            try clear c16
            try clear c17
            try clear c20
            try clear c21
            try clear c22
            try clear c23
            try clear c25
            try clear c26
            try clear c27
            try clear c30
            try clear c31
            try clear c32
            try clear c33
            try clear c35
            try clear c36
            try clear c39
            try clear c39b0
            try clear c39b1
            try clear c41
            try clear c42
            try clear c43
            try clear c45
            try clear c46
            try clear c50
            try clear c51
            try clear c52
            try clear c54
            try clear c54b0
            try clear c54b1
            try clear c57
            try clear c58
            try clear c59
            try clear c63
            try clear c64
            try clear p64
            try clear c65
            try clear hcz11_0
            try clear hcz11_1
            try clear hcz11_2
            try clear hcz11_3
            try clear hcz18_0
            try clear hcz18_1
            try clear hcz18_2
            try clear hcz18_3
            try clear hcz18_4
            try clear hcz23_0
            try clear hcz23_1
            try clear hcz23_2
            try clear hcz23_3
            try clear hcz23_4
            try clear hcz28_0
            try clear hcz28_1
            try clear hcz28_2
            try clear hcz28_3
            try clear hcz28_4
            try clear hcz34_0
            try clear hcz34_1
            try clear hcz34_2
            try clear hcz34_3
            try clear hcz37_0
            try clear hcz37_1
            try clear hcz37_2
            try clear hcz37_3
            try clear hcz44_0
            try clear hcz44_1
            try clear hcz44_2
            try clear hcz44_3
            try clear hcz47_0
            try clear hcz47_1
            try clear hcz47_2
            try clear hcz47_3
            try clear hcz53_0
            try clear hcz53_1
            try clear hcz53_2
            try clear hcz53_3
            try clear hcz53_4
            try clear hcz60_0
            try clear hcz60_1
            try clear hcz60_2
            try clear hcz60_3
            try clear hcz66_0
            try clear hcz66_1
            try clear hcz66_2
            try clear hcz66_3
            try clear hfz11_0
            try clear hfz11_1
            try clear hfz11_2
            try clear hfz11_3
            try clear hfz18_0
            try clear hfz18_1
            try clear hfz18_2
            try clear hfz18_3
            try clear hfz18_4
            try clear hfz23_0
            try clear hfz23_1
            try clear hfz23_2
            try clear hfz23_3
            try clear hfz23_4
            try clear hfz28_0
            try clear hfz28_1
            try clear hfz28_2
            try clear hfz28_3
            try clear hfz28_4
            try clear hfz34_0
            try clear hfz34_1
            try clear hfz34_2
            try clear hfz34_3
            try clear hfz37_0
            try clear hfz37_1
            try clear hfz37_2
            try clear hfz37_3
            try clear hfz44_0
            try clear hfz44_1
            try clear hfz44_2
            try clear hfz44_3
            try clear hfz47_0
            try clear hfz47_1
            try clear hfz47_2
            try clear hfz47_3
            try clear hfz53_0
            try clear hfz53_1
            try clear hfz53_2
            try clear hfz53_3
            try clear hfz53_4
            try clear hfz60_0
            try clear hfz60_1
            try clear hfz60_2
            try clear hfz60_3
            try clear hfz66_0
            try clear hfz66_1
            try clear hfz66_2
            try clear hfz66_3
            try clear p2
            obtain ⟨kq, x1000_47, x231000_47, HA, HJ47, BK228, BK229, BK230, HI0, HK, HB⟩ := hcut
            cases kq with
            | zero => exact absurd HA.out (by simp [revenantref34_Mint_Op.j1])
            | succ kj47 =>
              have H := HA.out
              clear HA
              simp only [revenantref34_Mint_Op.j1] at H
              replace H := Option.bind_eq_some_iff.mp H
              obtain ⟨⟨t238, t239⟩, A670, H⟩ := H
              replace H : (if x231000_47 = 4 then (revenantref34_Mint_Op.j2 kj47 true t239 a1_0 a1_1 a1_2 a1_3 a1_4 x231000_47 (IntKind.u64.wrap (t238)) 0 0) else (revenantref34_Mint_Op.j2 kj47 (x231000_47 == 5) t239 a1_0 a1_1 a1_2 a1_3 a1_4 x231000_47 (IntKind.u64.wrap (t238)) 0 0)) = some (r1, r2, r3, r4, r5) := H
              have A67 := Aside0.mk A670
              clear A670
              have HC68 := Aside0.mk H
              clear H
              go_upto_region 11 with (first | ((with_reducible refine gate_callee (f := 36) rfl ?_); refine goesL_ (some 39) rfl rfl Try.func36 (by kernel_rfl) rfl #[.pointer (some ⟨g, 0, none⟩), .int .i64 a2] rfl (by (try simp only [List.map_toArray, List.map_cons, List.map_nil]); first | done | rfl | (simp only [List.length_drop, List.length_take]; rfl)) ?_; (with_reducible refine (revenantref34_Mint_Below.calls g x1000_47 a2 t238 t239 w0 _ ?side1 ?side2 A67.out).mono ?_); (case side1 => repeat (first | (with_reducible first | exact HI0.out | apply IsS73.alloc | apply IsS73.drewN | apply IsS73.drew | apply IsS73.set_0 | refine IsS73.far ?_ NB0_228.out _ | refine IsS73.far ?_ NB0_229.out _ | refine IsS73.far ?_ NB0_230.out _) | exact HI0.out)); (case side2 => repeat (first | (with_reducible first | exact HB.out | apply below_alloc | apply pw_below_drewN | apply below_drew1 | refine below_set ?_ (IsS73.ge HI0.out) | refine below_set ?_ GE228.out | refine below_set ?_ GE229.out | refine below_set ?_ GE230.out) | exact HB.out)); rintro e w69 ⟨rfl, hi, hb, hk⟩; refine ⟨_, rfl, ?_⟩; have n0_ := Aside0.mk (KeepBut.blk hk (g' := gb228) (o := .cells #[.int .i64 a1_0, .int .i64 a1_1, .int .i64 a1_2, .int .i64 a1_3, .int .i64 a1_4] 31 (0, 0)) (by (with_reducible repeat (first | refine blk_drewN ?_ _ | refine blk_drew ?_ | refine blk_alloc ?_ _)); exact BK228.out) NB228_0.out (by simp)); have n1_ := Aside0.mk (KeepBut.blk hk (g' := gb229) (o := .cells #[.int .i64 0, .int .u64 0, .int .u64 0, .int .i64 0] 37 (0, 0)) (by (with_reducible repeat (first | refine blk_drewN ?_ _ | refine blk_drew ?_ | refine blk_alloc ?_ _)); exact BK229.out) NB229_0.out (by simp)); have n2_ := Aside0.mk (KeepBut.blk hk (g' := gb230) (o := .cells #[.int .i64 x231000_47, .int .u64 0, .int .u64 0, .int .i64 0] 37 (0, 0)) (by (with_reducible repeat (first | refine blk_drewN ?_ _ | refine blk_drew ?_ | refine blk_alloc ?_ _)); exact BK230.out) NB230_0.out (by simp)); have n3_ := Aside0.mk (KeepBut.trans (by repeat (first | (with_reducible first | exact HK.out | apply KeepBut.set_ | apply keep_drewN | apply keep_drew | apply keep_alloc | refine keep_far ?_ GW228.out _ | refine keep_far ?_ GW229.out _ | refine keep_far ?_ GW230.out _) | exact HK.out)) hk (.inl rfl)); have n4_ := Aside0.mk (hb); have n5_ := Aside0.mk (hi); clear BK228; clear BK229; clear BK230; clear HK; clear HB; clear HI0; have BK228 := n0_; have BK229 := n1_; have BK230 := n2_; have HK := n3_; have HB := n4_; have HI0 := n5_; clear n0_ n1_ n2_ n3_ n4_ n5_; (try clear hb); (try clear hb2); (try clear hk); (try clear hi); have hnb70 := NB230_228.out; have hnc70 := NB228_230.out; have hnb71 := NB230_229.out; have hnc71 := NB229_230.out; have hnb72 := NB230_0.out; have hnc72 := NB0_230.out; have hcz73_0 : w69.cell? ⟨gb230, 0, none⟩ = some (.int .i64 x231000_47) := (blk_cell BK230.out 0).trans rfl; have hcz73_1 : w69.cell? ⟨gb230, 1, none⟩ = some (.int .u64 0) := (blk_cell BK230.out 1).trans rfl; have hcz73_2 : w69.cell? ⟨gb230, 2, none⟩ = some (.int .u64 0) := (blk_cell BK230.out 2).trans rfl; have hcz73_3 : w69.cell? ⟨gb230, 3, none⟩ = some (.int .i64 0) := (blk_cell BK230.out 3).trans rfl; have hfz73_0 := blk_frozen BK230.out 0; have hfz73_1 := blk_frozen BK230.out 1; have hfz73_2 := blk_frozen BK230.out 2; have hfz73_3 := blk_frozen BK230.out 3))
              (try simp only [Act.put, List.setIfInBounds_toArray, List.set_cons_zero, List.set_cons_succ])
              go_cut [49] (fun v49 wc => ∃ (kq : Nat) (x49_67 : Bool), v49 = .bool x49_67 ∧ Aside0 (revenantref34_Mint_Op.j2 kq x49_67 t239 a1_0 a1_1 a1_2 a1_3 a1_4 x231000_47 (IntKind.u64.wrap (t238)) 0 0 = some (r1, r2, r3, r4, r5)) ∧ Aside0 (kq ≤ kj47) ∧ Aside0 (wc.heap[gb228]? = some (.cells #[.int .i64 a1_0, .int .i64 a1_1, .int .i64 a1_2, .int .i64 a1_3, .int .i64 a1_4] 31 (0, 0))) ∧ Aside0 (wc.heap[gb229]? = some (.cells #[.int .i64 0, .int .u64 0, .int .u64 0, .int .i64 0] 37 (0, 0))) ∧ Aside0 (wc.heap[gb230]? = some (.cells #[.int .i64 x231000_47, .int .u64 (IntKind.u64.wrap (t238)), .int .u64 0, .int .i64 0] 37 (0, 0))) ∧ Aside0 (IsS73 w0 wc g t239) ∧ Aside0 (KeepBut w wc g none) ∧ Aside0 (Below w0.heap.size w0 wc))
              case first =>
                have H := HC68.out
                clear HC68
                by_cases c74 : x231000_47 = 4
                · rw [if_pos c74] at H
                  have c74b0 : (x231000_47 == 4) = true := beq_iff_eq.mpr c74
                  have c74b1 : (x231000_47 != 4) = false := bne_eq_false_iff_eq.mpr c74
                  clear c74
                  (first | rw [c74b0] | (simp only [i64_w, i32_w]; rw [c74b0]) | skip)
                  have H' := Aside0.mk H
                  clear H
                  have hnb75 := NB230_228.out
                  have hnc75 := NB228_230.out
                  have hnb76 := NB230_229.out
                  have hnc76 := NB229_230.out
                  have hnb77 := NB230_0.out
                  have hnc77 := NB0_230.out
                  have hcz78_0 : w69.cell? ⟨gb230, 0, none⟩ = some (.int .i64 x231000_47) := (blk_cell BK230.out 0).trans rfl
                  have hcz78_1 : w69.cell? ⟨gb230, 1, none⟩ = some (.int .u64 0) := (blk_cell BK230.out 1).trans rfl
                  have hcz78_2 : w69.cell? ⟨gb230, 2, none⟩ = some (.int .u64 0) := (blk_cell BK230.out 2).trans rfl
                  have hcz78_3 : w69.cell? ⟨gb230, 3, none⟩ = some (.int .i64 0) := (blk_cell BK230.out 3).trans rfl
                  have hfz78_0 := blk_frozen BK230.out 0
                  have hfz78_1 := blk_frozen BK230.out 1
                  have hfz78_2 := blk_frozen BK230.out 2
                  have hfz78_3 := blk_frozen BK230.out 3
                  go_wp2
                  go_meet
                  case rel => exact ⟨_, (true), (by first | rfl | (simp; done) | (simp [*]; done)), H', ⟨by have := HJ3.out; have := HJ47.out; first | omega | exact Nat.le_refl _⟩, ⟨by (with_reducible repeat (first | refine blk_drewN ?_ _ | refine blk_drew ?_ | refine blk_alloc ?_ _)); refine blk_far ?_ NB228_230.out _; (with_reducible repeat (first | refine blk_drewN ?_ _ | refine blk_drew ?_ | refine blk_alloc ?_ _)); exact BK228.out⟩, ⟨by (with_reducible repeat (first | refine blk_drewN ?_ _ | refine blk_drew ?_ | refine blk_alloc ?_ _)); refine blk_far ?_ NB229_230.out _; (with_reducible repeat (first | refine blk_drewN ?_ _ | refine blk_drew ?_ | refine blk_alloc ?_ _)); exact BK229.out⟩, ⟨by (with_reducible repeat (first | refine blk_drewN ?_ _ | refine blk_drew ?_ | refine blk_alloc ?_ _)); refine blk_put (cs := #[.int .i64 x231000_47, .int .u64 0, .int .u64 0, .int .i64 0]) ?_ 1 _ rfl; (with_reducible repeat (first | refine blk_drewN ?_ _ | refine blk_drew ?_ | refine blk_alloc ?_ _)); exact BK230.out⟩, ⟨by repeat (first | (with_reducible first | exact HI0.out | apply IsS73.alloc | apply IsS73.drewN | apply IsS73.drew | apply IsS73.set_0 | refine IsS73.far ?_ NB0_228.out _ | refine IsS73.far ?_ NB0_229.out _ | refine IsS73.far ?_ NB0_230.out _) | exact HI0.out)⟩, ⟨by repeat (first | (with_reducible first | exact HK.out | apply KeepBut.set_ | apply keep_drewN | apply keep_drew | apply keep_alloc | refine keep_far ?_ GW228.out _ | refine keep_far ?_ GW229.out _ | refine keep_far ?_ GW230.out _) | exact HK.out)⟩, ⟨by repeat (first | (with_reducible first | exact HB.out | apply below_alloc | apply pw_below_drewN | apply below_drew1 | refine below_set ?_ (IsS73.ge HI0.out) | refine below_set ?_ GE228.out | refine below_set ?_ GE229.out | refine below_set ?_ GE230.out) | exact HB.out)⟩⟩
                · rw [if_neg c74] at H
                  have c74b0 : (x231000_47 == 4) = false := beq_eq_false_iff_ne.mpr c74
                  have c74b1 : (x231000_47 != 4) = true := bne_iff_ne.mpr c74
                  (first | rw [c74b0] | (simp only [i64_w, i32_w]; rw [c74b0]) | skip)
                  have H' := Aside0.mk H
                  clear H
                  have hnb79 := NB230_228.out
                  have hnc79 := NB228_230.out
                  have hnb80 := NB230_229.out
                  have hnc80 := NB229_230.out
                  have hnb81 := NB230_0.out
                  have hnc81 := NB0_230.out
                  have hcz82_0 : w69.cell? ⟨gb230, 0, none⟩ = some (.int .i64 x231000_47) := (blk_cell BK230.out 0).trans rfl
                  have hcz82_1 : w69.cell? ⟨gb230, 1, none⟩ = some (.int .u64 0) := (blk_cell BK230.out 1).trans rfl
                  have hcz82_2 : w69.cell? ⟨gb230, 2, none⟩ = some (.int .u64 0) := (blk_cell BK230.out 2).trans rfl
                  have hcz82_3 : w69.cell? ⟨gb230, 3, none⟩ = some (.int .i64 0) := (blk_cell BK230.out 3).trans rfl
                  have hfz82_0 := blk_frozen BK230.out 0
                  have hfz82_1 := blk_frozen BK230.out 1
                  have hfz82_2 := blk_frozen BK230.out 2
                  have hfz82_3 := blk_frozen BK230.out 3
                  go_wp2
                  go_meet
                  case rel => exact ⟨_, ((x231000_47 == 5)), (by first | rfl | (simp; done) | (simp [*]; done)), H', ⟨by have := HJ3.out; have := HJ47.out; first | omega | exact Nat.le_refl _⟩, ⟨by (with_reducible repeat (first | refine blk_drewN ?_ _ | refine blk_drew ?_ | refine blk_alloc ?_ _)); refine blk_far ?_ NB228_230.out _; (with_reducible repeat (first | refine blk_drewN ?_ _ | refine blk_drew ?_ | refine blk_alloc ?_ _)); exact BK228.out⟩, ⟨by (with_reducible repeat (first | refine blk_drewN ?_ _ | refine blk_drew ?_ | refine blk_alloc ?_ _)); refine blk_far ?_ NB229_230.out _; (with_reducible repeat (first | refine blk_drewN ?_ _ | refine blk_drew ?_ | refine blk_alloc ?_ _)); exact BK229.out⟩, ⟨by (with_reducible repeat (first | refine blk_drewN ?_ _ | refine blk_drew ?_ | refine blk_alloc ?_ _)); refine blk_put (cs := #[.int .i64 x231000_47, .int .u64 0, .int .u64 0, .int .i64 0]) ?_ 1 _ rfl; (with_reducible repeat (first | refine blk_drewN ?_ _ | refine blk_drew ?_ | refine blk_alloc ?_ _)); exact BK230.out⟩, ⟨by repeat (first | (with_reducible first | exact HI0.out | apply IsS73.alloc | apply IsS73.drewN | apply IsS73.drew | apply IsS73.set_0 | refine IsS73.far ?_ NB0_228.out _ | refine IsS73.far ?_ NB0_229.out _ | refine IsS73.far ?_ NB0_230.out _) | exact HI0.out)⟩, ⟨by repeat (first | (with_reducible first | exact HK.out | apply KeepBut.set_ | apply keep_drewN | apply keep_drew | apply keep_alloc | refine keep_far ?_ GW228.out _ | refine keep_far ?_ GW229.out _ | refine keep_far ?_ GW230.out _) | exact HK.out)⟩, ⟨by repeat (first | (with_reducible first | exact HB.out | apply below_alloc | apply pw_below_drewN | apply below_drew1 | refine below_set ?_ (IsS73.ge HI0.out) | refine below_set ?_ GE228.out | refine below_set ?_ GE229.out | refine below_set ?_ GE230.out) | exact HB.out)⟩⟩
              case rest =>
                clear HC68
                try clear c1
                try clear c2
                try clear p2
                try clear c3
                try clear c4
                try clear c5
                try clear c6
                try clear p6
                try clear c7
                try clear c8
                try clear c9
                try clear c10
                try clear c13
                try clear c13b0
                try clear c13b1
                try clear c14
                try clear c14b0
                try clear c15
                try clear c16
                try clear c17
                try clear c20
                try clear c21
                try clear c22
                try clear c23
                try clear c25
                try clear c26
                try clear c27
                try clear c30
                try clear c31
                try clear c32
                try clear c33
                try clear c35
                try clear c36
                try clear c39
                try clear c39b0
                try clear c39b1
                try clear c41
                try clear c42
                try clear c43
                try clear c45
                try clear c46
                try clear c50
                try clear c51
                try clear c52
                try clear c54
                try clear c54b0
                try clear c54b1
                try clear c57
                try clear c58
                try clear c59
                try clear c63
                try clear c64
                try clear p64
                try clear c65
                try clear c70
                try clear c71
                try clear c72
                try clear c74
                try clear c74b0
                try clear c74b1
                try clear c75
                try clear c76
                try clear c77
                try clear c79
                try clear c80
                try clear c81
                try clear hcz11_0
                try clear hcz11_1
                try clear hcz11_2
                try clear hcz11_3
                try clear hcz18_0
                try clear hcz18_1
                try clear hcz18_2
                try clear hcz18_3
                try clear hcz18_4
                try clear hcz23_0
                try clear hcz23_1
                try clear hcz23_2
                try clear hcz23_3
                try clear hcz23_4
                try clear hcz28_0
                try clear hcz28_1
                try clear hcz28_2
                try clear hcz28_3
                try clear hcz28_4
                try clear hcz34_0
                try clear hcz34_1
                try clear hcz34_2
                try clear hcz34_3
                try clear hcz37_0
                try clear hcz37_1
                try clear hcz37_2
                try clear hcz37_3
                try clear hcz44_0
                try clear hcz44_1
                try clear hcz44_2
                try clear hcz44_3
                try clear hcz47_0
                try clear hcz47_1
                try clear hcz47_2
                try clear hcz47_3
                try clear hcz53_0
                try clear hcz53_1
                try clear hcz53_2
                try clear hcz53_3
                try clear hcz53_4
                try clear hcz60_0
                try clear hcz60_1
                try clear hcz60_2
                try clear hcz60_3
                try clear hcz66_0
                try clear hcz66_1
                try clear hcz66_2
                try clear hcz66_3
                try clear hcz73_0
                try clear hcz73_1
                try clear hcz73_2
                try clear hcz73_3
                try clear hcz78_0
                try clear hcz78_1
                try clear hcz78_2
                try clear hcz78_3
                try clear hcz82_0
                try clear hcz82_1
                try clear hcz82_2
                try clear hcz82_3
                try clear hfz11_0
                try clear hfz11_1
                try clear hfz11_2
                try clear hfz11_3
                try clear hfz18_0
                try clear hfz18_1
                try clear hfz18_2
                try clear hfz18_3
                try clear hfz18_4
                try clear hfz23_0
                try clear hfz23_1
                try clear hfz23_2
                try clear hfz23_3
                try clear hfz23_4
                try clear hfz28_0
                try clear hfz28_1
                try clear hfz28_2
                try clear hfz28_3
                try clear hfz28_4
                try clear hfz34_0
                try clear hfz34_1
                try clear hfz34_2
                try clear hfz34_3
                try clear hfz37_0
                try clear hfz37_1
                try clear hfz37_2
                try clear hfz37_3
                try clear hfz44_0
                try clear hfz44_1
                try clear hfz44_2
                try clear hfz44_3
                try clear hfz47_0
                try clear hfz47_1
                try clear hfz47_2
                try clear hfz47_3
                try clear hfz53_0
                try clear hfz53_1
                try clear hfz53_2
                try clear hfz53_3
                try clear hfz53_4
                try clear hfz60_0
                try clear hfz60_1
                try clear hfz60_2
                try clear hfz60_3
                try clear hfz66_0
                try clear hfz66_1
                try clear hfz66_2
                try clear hfz66_3
                try clear hfz73_0
                try clear hfz73_1
                try clear hfz73_2
                try clear hfz73_3
                try clear hfz78_0
                try clear hfz78_1
                try clear hfz78_2
                try clear hfz78_3
                try clear hfz82_0
                try clear hfz82_1
                try clear hfz82_2
                try clear hfz82_3
                try clear p2
                try clear p6
                try clear p64
                obtain ⟨kq, x49_67, rfl, HA, HJ67, BK228, BK229, BK230, HI0, HK, HB⟩ := hcut
                cases kq with
                | zero => exact absurd HA.out (by simp [revenantref34_Mint_Op.j2])
                | succ kj67 =>
                  have H := HA.out
                  clear HA
                  simp only [revenantref34_Mint_Op.j2] at H
                  have HC83 := Aside0.mk H
                  clear H
                  go_upto_if 49 with (fail)
                  go_cut [] (fun wc => ∃ (kq : Nat) (x1000_82 : Int) (x231002_82 : Int), Aside0 (revenantref34_Mint_Op.j3 kq x1000_82 a1_0 a1_1 a1_2 a1_3 a1_4 x231000_47 (IntKind.u64.wrap (t238)) x231002_82 0 = some (r1, r2, r3, r4, r5)) ∧ Aside0 (kq ≤ kj67) ∧ Aside0 (wc.heap[gb228]? = some (.cells #[.int .i64 a1_0, .int .i64 a1_1, .int .i64 a1_2, .int .i64 a1_3, .int .i64 a1_4] 31 (0, 0))) ∧ Aside0 (wc.heap[gb229]? = some (.cells #[.int .i64 0, .int .u64 0, .int .u64 0, .int .i64 0] 37 (0, 0))) ∧ Aside0 (wc.heap[gb230]? = some (.cells #[.int .i64 x231000_47, .int .u64 (IntKind.u64.wrap (t238)), .int .u64 x231002_82, .int .i64 0] 37 (0, 0))) ∧ Aside0 (IsS73 w0 wc g x1000_82) ∧ Aside0 (KeepBut w wc g none) ∧ Aside0 (Below w0.heap.size w0 wc))
                  case first =>
                    have H := HC83.out
                    clear HC83
                    by_cases c84 : x49_67 = true
                    · subst c84
                      have H1 : ((revenantref34_Mint_Below.f t239 100).bind fun bt240 => (revenantref34_Mint_Op.j3 kj67 bt240.2 a1_0 a1_1 a1_2 a1_3 a1_4 x231000_47 (IntKind.u64.wrap (t238)) (IntKind.u64.wrap (bt240.1)) 0)) = some (r1, r2, r3, r4, r5) := by rw [if_pos rfl] at H; exact H
                      clear H
                      have H := H1
                      clear H1
                      replace H := Option.bind_eq_some_iff.mp H
                      obtain ⟨⟨t240, t241⟩, A850, H⟩ := H
                      replace H : (revenantref34_Mint_Op.j3 kj67 t241 a1_0 a1_1 a1_2 a1_3 a1_4 x231000_47 (IntKind.u64.wrap (t238)) (IntKind.u64.wrap (t240)) 0) = some (r1, r2, r3, r4, r5) := H
                      have A85 := Aside0.mk A850
                      clear A850
                      have H' := Aside0.mk H
                      clear H
                      go_wp2_with (first | ((with_reducible refine gate_callee (f := 36) rfl ?_); refine goesL_ (some 51) rfl rfl Try.func36 (by kernel_rfl) rfl #[.pointer (some ⟨g, 0, none⟩), .int .i64 100] rfl (by (try simp only [List.map_toArray, List.map_cons, List.map_nil]); first | done | rfl | (simp only [List.length_drop, List.length_take]; rfl)) ?_; (with_reducible refine (revenantref34_Mint_Below.calls g t239 100 t240 t241 w0 _ ?side1 ?side2 A85.out).mono ?_); (case side1 => repeat (first | (with_reducible first | exact HI0.out | apply IsS73.alloc | apply IsS73.drewN | apply IsS73.drew | apply IsS73.set_0 | refine IsS73.far ?_ NB0_228.out _ | refine IsS73.far ?_ NB0_229.out _ | refine IsS73.far ?_ NB0_230.out _) | exact HI0.out)); (case side2 => repeat (first | (with_reducible first | exact HB.out | apply below_alloc | apply pw_below_drewN | apply below_drew1 | refine below_set ?_ (IsS73.ge HI0.out) | refine below_set ?_ GE228.out | refine below_set ?_ GE229.out | refine below_set ?_ GE230.out) | exact HB.out)); rintro e w86 ⟨rfl, hi, hb, hk⟩; refine ⟨_, rfl, ?_⟩; have n0_ := Aside0.mk (KeepBut.blk hk (g' := gb228) (o := .cells #[.int .i64 a1_0, .int .i64 a1_1, .int .i64 a1_2, .int .i64 a1_3, .int .i64 a1_4] 31 (0, 0)) (by (with_reducible repeat (first | refine blk_drewN ?_ _ | refine blk_drew ?_ | refine blk_alloc ?_ _)); exact BK228.out) NB228_0.out (by simp)); have n1_ := Aside0.mk (KeepBut.blk hk (g' := gb229) (o := .cells #[.int .i64 0, .int .u64 0, .int .u64 0, .int .i64 0] 37 (0, 0)) (by (with_reducible repeat (first | refine blk_drewN ?_ _ | refine blk_drew ?_ | refine blk_alloc ?_ _)); exact BK229.out) NB229_0.out (by simp)); have n2_ := Aside0.mk (KeepBut.blk hk (g' := gb230) (o := .cells #[.int .i64 x231000_47, .int .u64 (IntKind.u64.wrap (t238)), .int .u64 0, .int .i64 0] 37 (0, 0)) (by (with_reducible repeat (first | refine blk_drewN ?_ _ | refine blk_drew ?_ | refine blk_alloc ?_ _)); exact BK230.out) NB230_0.out (by simp)); have n3_ := Aside0.mk (KeepBut.trans (by repeat (first | (with_reducible first | exact HK.out | apply KeepBut.set_ | apply keep_drewN | apply keep_drew | apply keep_alloc | refine keep_far ?_ GW228.out _ | refine keep_far ?_ GW229.out _ | refine keep_far ?_ GW230.out _) | exact HK.out)) hk (.inl rfl)); have n4_ := Aside0.mk (hb); have n5_ := Aside0.mk (hi); clear BK228; clear BK229; clear BK230; clear HK; clear HB; clear HI0; have BK228 := n0_; have BK229 := n1_; have BK230 := n2_; have HK := n3_; have HB := n4_; have HI0 := n5_; clear n0_ n1_ n2_ n3_ n4_ n5_; (try clear hb); (try clear hb2); (try clear hk); (try clear hi); have hnb87 := NB230_228.out; have hnc87 := NB228_230.out; have hnb88 := NB230_229.out; have hnc88 := NB229_230.out; have hnb89 := NB230_0.out; have hnc89 := NB0_230.out; have hcz90_0 : w86.cell? ⟨gb230, 0, none⟩ = some (.int .i64 x231000_47) := (blk_cell BK230.out 0).trans rfl; have hcz90_1 : w86.cell? ⟨gb230, 1, none⟩ = some (.int .u64 (IntKind.u64.wrap (t238))) := (blk_cell BK230.out 1).trans rfl; have hcz90_2 : w86.cell? ⟨gb230, 2, none⟩ = some (.int .u64 0) := (blk_cell BK230.out 2).trans rfl; have hcz90_3 : w86.cell? ⟨gb230, 3, none⟩ = some (.int .i64 0) := (blk_cell BK230.out 3).trans rfl; have hfz90_0 := blk_frozen BK230.out 0; have hfz90_1 := blk_frozen BK230.out 1; have hfz90_2 := blk_frozen BK230.out 2; have hfz90_3 := blk_frozen BK230.out 3))
                      go_meet
                      case rel => exact ⟨_, (t241), (IntKind.u64.wrap (t240)), H', ⟨by have := HJ3.out; have := HJ47.out; have := HJ67.out; first | omega | exact Nat.le_refl _⟩, ⟨by (with_reducible repeat (first | refine blk_drewN ?_ _ | refine blk_drew ?_ | refine blk_alloc ?_ _)); refine blk_far ?_ NB228_230.out _; (with_reducible repeat (first | refine blk_drewN ?_ _ | refine blk_drew ?_ | refine blk_alloc ?_ _)); exact BK228.out⟩, ⟨by (with_reducible repeat (first | refine blk_drewN ?_ _ | refine blk_drew ?_ | refine blk_alloc ?_ _)); refine blk_far ?_ NB229_230.out _; (with_reducible repeat (first | refine blk_drewN ?_ _ | refine blk_drew ?_ | refine blk_alloc ?_ _)); exact BK229.out⟩, ⟨by (with_reducible repeat (first | refine blk_drewN ?_ _ | refine blk_drew ?_ | refine blk_alloc ?_ _)); refine blk_put (cs := #[.int .i64 x231000_47, .int .u64 (IntKind.u64.wrap (t238)), .int .u64 0, .int .i64 0]) ?_ 2 _ rfl; (with_reducible repeat (first | refine blk_drewN ?_ _ | refine blk_drew ?_ | refine blk_alloc ?_ _)); exact BK230.out⟩, ⟨by repeat (first | (with_reducible first | exact HI0.out | apply IsS73.alloc | apply IsS73.drewN | apply IsS73.drew | apply IsS73.set_0 | refine IsS73.far ?_ NB0_228.out _ | refine IsS73.far ?_ NB0_229.out _ | refine IsS73.far ?_ NB0_230.out _) | exact HI0.out)⟩, ⟨by repeat (first | (with_reducible first | exact HK.out | apply KeepBut.set_ | apply keep_drewN | apply keep_drew | apply keep_alloc | refine keep_far ?_ GW228.out _ | refine keep_far ?_ GW229.out _ | refine keep_far ?_ GW230.out _) | exact HK.out)⟩, ⟨by repeat (first | (with_reducible first | exact HB.out | apply below_alloc | apply pw_below_drewN | apply below_drew1 | refine below_set ?_ (IsS73.ge HI0.out) | refine below_set ?_ GE228.out | refine below_set ?_ GE229.out | refine below_set ?_ GE230.out) | exact HB.out)⟩⟩
                    · replace c84 := Bool.eq_false_iff.mpr c84
                      subst c84
                      have H1 : (revenantref34_Mint_Op.j3 kj67 t239 a1_0 a1_1 a1_2 a1_3 a1_4 x231000_47 (IntKind.u64.wrap (t238)) 0 0) = some (r1, r2, r3, r4, r5) := by rw [if_neg (show ¬ (false = true) by decide)] at H; exact H
                      clear H
                      have H := H1
                      clear H1
                      have H' := Aside0.mk H
                      clear H
                      go_wp2
                      go_meet
                      case rel => exact ⟨_, (t239), (0), H', ⟨by have := HJ3.out; have := HJ47.out; have := HJ67.out; first | omega | exact Nat.le_refl _⟩, ⟨by (with_reducible repeat (first | refine blk_drewN ?_ _ | refine blk_drew ?_ | refine blk_alloc ?_ _)); exact BK228.out⟩, ⟨by (with_reducible repeat (first | refine blk_drewN ?_ _ | refine blk_drew ?_ | refine blk_alloc ?_ _)); exact BK229.out⟩, ⟨by (with_reducible repeat (first | refine blk_drewN ?_ _ | refine blk_drew ?_ | refine blk_alloc ?_ _)); exact BK230.out⟩, ⟨by repeat (first | (with_reducible first | exact HI0.out | apply IsS73.alloc | apply IsS73.drewN | apply IsS73.drew | apply IsS73.set_0 | refine IsS73.far ?_ NB0_228.out _ | refine IsS73.far ?_ NB0_229.out _ | refine IsS73.far ?_ NB0_230.out _) | exact HI0.out)⟩, ⟨by repeat (first | (with_reducible first | exact HK.out | apply KeepBut.set_ | apply keep_drewN | apply keep_drew | apply keep_alloc | refine keep_far ?_ GW228.out _ | refine keep_far ?_ GW229.out _ | refine keep_far ?_ GW230.out _) | exact HK.out)⟩, ⟨by repeat (first | (with_reducible first | exact HB.out | apply below_alloc | apply pw_below_drewN | apply below_drew1 | refine below_set ?_ (IsS73.ge HI0.out) | refine below_set ?_ GE228.out | refine below_set ?_ GE229.out | refine below_set ?_ GE230.out) | exact HB.out)⟩⟩
                  case rest =>
                    clear HC83
                    try clear c1
                    try clear c2
                    try clear p2
                    try clear c3
                    try clear c4
                    try clear c5
                    try clear c6
                    try clear p6
                    try clear c7
                    try clear c8
                    try clear c9
                    try clear c10
                    try clear c13
                    try clear c13b0
                    try clear c13b1
                    try clear c14
                    try clear c14b0
                    try clear c15
                    try clear c16
                    try clear c17
                    try clear c20
                    try clear c21
                    try clear c22
                    try clear c23
                    try clear c25
                    try clear c26
                    try clear c27
                    try clear c30
                    try clear c31
                    try clear c32
                    try clear c33
                    try clear c35
                    try clear c36
                    try clear c39
                    try clear c39b0
                    try clear c39b1
                    try clear c41
                    try clear c42
                    try clear c43
                    try clear c45
                    try clear c46
                    try clear c50
                    try clear c51
                    try clear c52
                    try clear c54
                    try clear c54b0
                    try clear c54b1
                    try clear c57
                    try clear c58
                    try clear c59
                    try clear c63
                    try clear c64
                    try clear p64
                    try clear c65
                    try clear c70
                    try clear c71
                    try clear c72
                    try clear c74
                    try clear c74b0
                    try clear c74b1
                    try clear c75
                    try clear c76
                    try clear c77
                    try clear c79
                    try clear c80
                    try clear c81
                    try clear c84
                    try clear c87
                    try clear c88
                    try clear c89
                    try clear hcz11_0
                    try clear hcz11_1
                    try clear hcz11_2
                    try clear hcz11_3
                    try clear hcz18_0
                    try clear hcz18_1
                    try clear hcz18_2
                    try clear hcz18_3
                    try clear hcz18_4
                    try clear hcz23_0
                    try clear hcz23_1
                    try clear hcz23_2
                    try clear hcz23_3
                    try clear hcz23_4
                    try clear hcz28_0
                    try clear hcz28_1
                    try clear hcz28_2
                    try clear hcz28_3
                    try clear hcz28_4
                    try clear hcz34_0
                    try clear hcz34_1
                    try clear hcz34_2
                    try clear hcz34_3
                    try clear hcz37_0
                    try clear hcz37_1
                    try clear hcz37_2
                    try clear hcz37_3
                    try clear hcz44_0
                    try clear hcz44_1
                    try clear hcz44_2
                    try clear hcz44_3
                    try clear hcz47_0
                    try clear hcz47_1
                    try clear hcz47_2
                    try clear hcz47_3
                    try clear hcz53_0
                    try clear hcz53_1
                    try clear hcz53_2
                    try clear hcz53_3
                    try clear hcz53_4
                    try clear hcz60_0
                    try clear hcz60_1
                    try clear hcz60_2
                    try clear hcz60_3
                    try clear hcz66_0
                    try clear hcz66_1
                    try clear hcz66_2
                    try clear hcz66_3
                    try clear hcz73_0
                    try clear hcz73_1
                    try clear hcz73_2
                    try clear hcz73_3
                    try clear hcz78_0
                    try clear hcz78_1
                    try clear hcz78_2
                    try clear hcz78_3
                    try clear hcz82_0
                    try clear hcz82_1
                    try clear hcz82_2
                    try clear hcz82_3
                    try clear hcz90_0
                    try clear hcz90_1
                    try clear hcz90_2
                    try clear hcz90_3
                    try clear hfz11_0
                    try clear hfz11_1
                    try clear hfz11_2
                    try clear hfz11_3
                    try clear hfz18_0
                    try clear hfz18_1
                    try clear hfz18_2
                    try clear hfz18_3
                    try clear hfz18_4
                    try clear hfz23_0
                    try clear hfz23_1
                    try clear hfz23_2
                    try clear hfz23_3
                    try clear hfz23_4
                    try clear hfz28_0
                    try clear hfz28_1
                    try clear hfz28_2
                    try clear hfz28_3
                    try clear hfz28_4
                    try clear hfz34_0
                    try clear hfz34_1
                    try clear hfz34_2
                    try clear hfz34_3
                    try clear hfz37_0
                    try clear hfz37_1
                    try clear hfz37_2
                    try clear hfz37_3
                    try clear hfz44_0
                    try clear hfz44_1
                    try clear hfz44_2
                    try clear hfz44_3
                    try clear hfz47_0
                    try clear hfz47_1
                    try clear hfz47_2
                    try clear hfz47_3
                    try clear hfz53_0
                    try clear hfz53_1
                    try clear hfz53_2
                    try clear hfz53_3
                    try clear hfz53_4
                    try clear hfz60_0
                    try clear hfz60_1
                    try clear hfz60_2
                    try clear hfz60_3
                    try clear hfz66_0
                    try clear hfz66_1
                    try clear hfz66_2
                    try clear hfz66_3
                    try clear hfz73_0
                    try clear hfz73_1
                    try clear hfz73_2
                    try clear hfz73_3
                    try clear hfz78_0
                    try clear hfz78_1
                    try clear hfz78_2
                    try clear hfz78_3
                    try clear hfz82_0
                    try clear hfz82_1
                    try clear hfz82_2
                    try clear hfz82_3
                    try clear hfz90_0
                    try clear hfz90_1
                    try clear hfz90_2
                    try clear hfz90_3
                    try clear p2
                    try clear p6
                    try clear p64
                    obtain ⟨kq, x1000_82, x231002_82, HA, HJ82, BK228, BK229, BK230, HI0, HK, HB⟩ := hcut
                    cases kq with
                    | zero => exact absurd HA.out (by simp [revenantref34_Mint_Op.j3])
                    | succ kj82 =>
                      have H := HA.out
                      clear HA
                      simp only [revenantref34_Mint_Op.j3] at H
                      have HC91 := Aside0.mk H
                      clear H
                      go_upto_region 13 with (fail)
                      go_cut [61] (fun v61 wc => ∃ (kq : Nat) (x61_90 : Bool), v61 = .bool x61_90 ∧ Aside0 (revenantref34_Mint_Op.j4 kq x61_90 x1000_82 a1_0 a1_1 a1_2 a1_3 a1_4 x231000_47 (IntKind.u64.wrap (t238)) x231002_82 0 = some (r1, r2, r3, r4, r5)) ∧ Aside0 (kq ≤ kj82) ∧ Aside0 (wc.heap[gb228]? = some (.cells #[.int .i64 a1_0, .int .i64 a1_1, .int .i64 a1_2, .int .i64 a1_3, .int .i64 a1_4] 31 (0, 0))) ∧ Aside0 (wc.heap[gb229]? = some (.cells #[.int .i64 0, .int .u64 0, .int .u64 0, .int .i64 0] 37 (0, 0))) ∧ Aside0 (wc.heap[gb230]? = some (.cells #[.int .i64 x231000_47, .int .u64 (IntKind.u64.wrap (t238)), .int .u64 x231002_82, .int .i64 0] 37 (0, 0))) ∧ Aside0 (IsS73 w0 wc g x1000_82) ∧ Aside0 (KeepBut w wc g none) ∧ Aside0 (Below w0.heap.size w0 wc))
                      case first =>
                        have H := HC91.out
                        clear HC91
                        by_cases c92 : x231000_47 = 1
                        · rw [if_pos c92] at H
                          have c92b0 : (x231000_47 == 1) = true := beq_iff_eq.mpr c92
                          have c92b1 : (x231000_47 != 1) = false := bne_eq_false_iff_eq.mpr c92
                          clear c92
                          (first | rw [c92b0] | (simp only [i64_w, i32_w]; rw [c92b0]) | skip)
                          have H' := Aside0.mk H
                          clear H
                          have hnb93 := NB230_228.out
                          have hnc93 := NB228_230.out
                          have hnb94 := NB230_229.out
                          have hnc94 := NB229_230.out
                          have hnb95 := NB230_0.out
                          have hnc95 := NB0_230.out
                          have hcz96_0 : wc.cell? ⟨gb230, 0, none⟩ = some (.int .i64 x231000_47) := (blk_cell BK230.out 0).trans rfl
                          have hcz96_1 : wc.cell? ⟨gb230, 1, none⟩ = some (.int .u64 (IntKind.u64.wrap (t238))) := (blk_cell BK230.out 1).trans rfl
                          have hcz96_2 : wc.cell? ⟨gb230, 2, none⟩ = some (.int .u64 x231002_82) := (blk_cell BK230.out 2).trans rfl
                          have hcz96_3 : wc.cell? ⟨gb230, 3, none⟩ = some (.int .i64 0) := (blk_cell BK230.out 3).trans rfl
                          have hfz96_0 := blk_frozen BK230.out 0
                          have hfz96_1 := blk_frozen BK230.out 1
                          have hfz96_2 := blk_frozen BK230.out 2
                          have hfz96_3 := blk_frozen BK230.out 3
                          have hnb97 := NB228_229.out
                          have hnc97 := NB229_228.out
                          have hnb98 := NB228_0.out
                          have hnc98 := NB0_228.out
                          have hcz99_0 : wc.cell? ⟨gb228, 0, none⟩ = some (.int .i64 a1_0) := (blk_cell BK228.out 0).trans rfl
                          have hcz99_1 : wc.cell? ⟨gb228, 1, none⟩ = some (.int .i64 a1_1) := (blk_cell BK228.out 1).trans rfl
                          have hcz99_2 : wc.cell? ⟨gb228, 2, none⟩ = some (.int .i64 a1_2) := (blk_cell BK228.out 2).trans rfl
                          have hcz99_3 : wc.cell? ⟨gb228, 3, none⟩ = some (.int .i64 a1_3) := (blk_cell BK228.out 3).trans rfl
                          have hcz99_4 : wc.cell? ⟨gb228, 4, none⟩ = some (.int .i64 a1_4) := (blk_cell BK228.out 4).trans rfl
                          have hfz99_0 := blk_frozen BK228.out 0
                          have hfz99_1 := blk_frozen BK228.out 1
                          have hfz99_2 := blk_frozen BK228.out 2
                          have hfz99_3 := blk_frozen BK228.out 3
                          have hfz99_4 := blk_frozen BK228.out 4
                          go_wp2
                          go_meet
                          case rel => exact ⟨_, ((a1_0 == 3)), (by first | rfl | (simp; done) | (simp [*]; done)), H', ⟨by have := HJ3.out; have := HJ47.out; have := HJ67.out; have := HJ82.out; first | omega | exact Nat.le_refl _⟩, ⟨by (with_reducible repeat (first | refine blk_drewN ?_ _ | refine blk_drew ?_ | refine blk_alloc ?_ _)); exact BK228.out⟩, ⟨by (with_reducible repeat (first | refine blk_drewN ?_ _ | refine blk_drew ?_ | refine blk_alloc ?_ _)); exact BK229.out⟩, ⟨by (with_reducible repeat (first | refine blk_drewN ?_ _ | refine blk_drew ?_ | refine blk_alloc ?_ _)); exact BK230.out⟩, ⟨by repeat (first | (with_reducible first | exact HI0.out | apply IsS73.alloc | apply IsS73.drewN | apply IsS73.drew | apply IsS73.set_0 | refine IsS73.far ?_ NB0_228.out _ | refine IsS73.far ?_ NB0_229.out _ | refine IsS73.far ?_ NB0_230.out _) | exact HI0.out)⟩, ⟨by repeat (first | (with_reducible first | exact HK.out | apply KeepBut.set_ | apply keep_drewN | apply keep_drew | apply keep_alloc | refine keep_far ?_ GW228.out _ | refine keep_far ?_ GW229.out _ | refine keep_far ?_ GW230.out _) | exact HK.out)⟩, ⟨by repeat (first | (with_reducible first | exact HB.out | apply below_alloc | apply pw_below_drewN | apply below_drew1 | refine below_set ?_ (IsS73.ge HI0.out) | refine below_set ?_ GE228.out | refine below_set ?_ GE229.out | refine below_set ?_ GE230.out) | exact HB.out)⟩⟩
                        · rw [if_neg c92] at H
                          have c92b0 : (x231000_47 == 1) = false := beq_eq_false_iff_ne.mpr c92
                          have c92b1 : (x231000_47 != 1) = true := bne_iff_ne.mpr c92
                          (first | rw [c92b0] | (simp only [i64_w, i32_w]; rw [c92b0]) | skip)
                          have H' := Aside0.mk H
                          clear H
                          have hnb100 := NB230_228.out
                          have hnc100 := NB228_230.out
                          have hnb101 := NB230_229.out
                          have hnc101 := NB229_230.out
                          have hnb102 := NB230_0.out
                          have hnc102 := NB0_230.out
                          have hcz103_0 : wc.cell? ⟨gb230, 0, none⟩ = some (.int .i64 x231000_47) := (blk_cell BK230.out 0).trans rfl
                          have hcz103_1 : wc.cell? ⟨gb230, 1, none⟩ = some (.int .u64 (IntKind.u64.wrap (t238))) := (blk_cell BK230.out 1).trans rfl
                          have hcz103_2 : wc.cell? ⟨gb230, 2, none⟩ = some (.int .u64 x231002_82) := (blk_cell BK230.out 2).trans rfl
                          have hcz103_3 : wc.cell? ⟨gb230, 3, none⟩ = some (.int .i64 0) := (blk_cell BK230.out 3).trans rfl
                          have hfz103_0 := blk_frozen BK230.out 0
                          have hfz103_1 := blk_frozen BK230.out 1
                          have hfz103_2 := blk_frozen BK230.out 2
                          have hfz103_3 := blk_frozen BK230.out 3
                          go_wp2
                          go_meet
                          case rel => exact ⟨_, (false), (by first | rfl | (simp; done) | (simp [*]; done)), H', ⟨by have := HJ3.out; have := HJ47.out; have := HJ67.out; have := HJ82.out; first | omega | exact Nat.le_refl _⟩, ⟨by (with_reducible repeat (first | refine blk_drewN ?_ _ | refine blk_drew ?_ | refine blk_alloc ?_ _)); exact BK228.out⟩, ⟨by (with_reducible repeat (first | refine blk_drewN ?_ _ | refine blk_drew ?_ | refine blk_alloc ?_ _)); exact BK229.out⟩, ⟨by (with_reducible repeat (first | refine blk_drewN ?_ _ | refine blk_drew ?_ | refine blk_alloc ?_ _)); exact BK230.out⟩, ⟨by repeat (first | (with_reducible first | exact HI0.out | apply IsS73.alloc | apply IsS73.drewN | apply IsS73.drew | apply IsS73.set_0 | refine IsS73.far ?_ NB0_228.out _ | refine IsS73.far ?_ NB0_229.out _ | refine IsS73.far ?_ NB0_230.out _) | exact HI0.out)⟩, ⟨by repeat (first | (with_reducible first | exact HK.out | apply KeepBut.set_ | apply keep_drewN | apply keep_drew | apply keep_alloc | refine keep_far ?_ GW228.out _ | refine keep_far ?_ GW229.out _ | refine keep_far ?_ GW230.out _) | exact HK.out)⟩, ⟨by repeat (first | (with_reducible first | exact HB.out | apply below_alloc | apply pw_below_drewN | apply below_drew1 | refine below_set ?_ (IsS73.ge HI0.out) | refine below_set ?_ GE228.out | refine below_set ?_ GE229.out | refine below_set ?_ GE230.out) | exact HB.out)⟩⟩
                      case rest =>
                        clear HC91
                        try clear c1
                        try clear c2
                        try clear p2
                        try clear c3
                        try clear c4
                        try clear c5
                        try clear c6
                        try clear p6
                        try clear c7
                        try clear c8
                        try clear c9
                        try clear c10
                        try clear c13
                        try clear c13b0
                        try clear c13b1
                        try clear c14
                        try clear c14b0
                        try clear c15
                        try clear c16
                        try clear c17
                        try clear c20
                        try clear c21
                        try clear c22
                        try clear c23
                        try clear c25
                        try clear c26
                        try clear c27
                        try clear c30
                        try clear c31
                        try clear c32
                        try clear c33
                        try clear c35
                        try clear c36
                        try clear c39
                        try clear c39b0
                        try clear c39b1
                        try clear c41
                        try clear c42
                        try clear c43
                        try clear c45
                        try clear c46
                        try clear c50
                        try clear c51
                        try clear c52
                        try clear c54
                        try clear c54b0
                        try clear c54b1
                        try clear c57
                        try clear c58
                        try clear c59
                        try clear c63
                        try clear c64
                        try clear p64
                        try clear c65
                        try clear c70
                        try clear c71
                        try clear c72
                        try clear c74
                        try clear c74b0
                        try clear c74b1
                        try clear c75
                        try clear c76
                        try clear c77
                        try clear c79
                        try clear c80
                        try clear c81
                        try clear c84
                        try clear c87
                        try clear c88
                        try clear c89
                        try clear c92
                        try clear c92b0
                        try clear c92b1
                        try clear c93
                        try clear c94
                        try clear c95
                        try clear c97
                        try clear c98
                        try clear c100
                        try clear c101
                        try clear c102
                        try clear hcz103_0
                        try clear hcz103_1
                        try clear hcz103_2
                        try clear hcz103_3
                        try clear hcz11_0
                        try clear hcz11_1
                        try clear hcz11_2
                        try clear hcz11_3
                        try clear hcz18_0
                        try clear hcz18_1
                        try clear hcz18_2
                        try clear hcz18_3
                        try clear hcz18_4
                        try clear hcz23_0
                        try clear hcz23_1
                        try clear hcz23_2
                        try clear hcz23_3
                        try clear hcz23_4
                        try clear hcz28_0
                        try clear hcz28_1
                        try clear hcz28_2
                        try clear hcz28_3
                        try clear hcz28_4
                        try clear hcz34_0
                        try clear hcz34_1
                        try clear hcz34_2
                        try clear hcz34_3
                        try clear hcz37_0
                        try clear hcz37_1
                        try clear hcz37_2
                        try clear hcz37_3
                        try clear hcz44_0
                        try clear hcz44_1
                        try clear hcz44_2
                        try clear hcz44_3
                        try clear hcz47_0
                        try clear hcz47_1
                        try clear hcz47_2
                        try clear hcz47_3
                        try clear hcz53_0
                        try clear hcz53_1
                        try clear hcz53_2
                        try clear hcz53_3
                        try clear hcz53_4
                        try clear hcz60_0
                        try clear hcz60_1
                        try clear hcz60_2
                        try clear hcz60_3
                        try clear hcz66_0
                        try clear hcz66_1
                        try clear hcz66_2
                        try clear hcz66_3
                        try clear hcz73_0
                        try clear hcz73_1
                        try clear hcz73_2
                        try clear hcz73_3
                        try clear hcz78_0
                        try clear hcz78_1
                        try clear hcz78_2
                        try clear hcz78_3
                        try clear hcz82_0
                        try clear hcz82_1
                        try clear hcz82_2
                        try clear hcz82_3
                        try clear hcz90_0
                        try clear hcz90_1
                        try clear hcz90_2
                        try clear hcz90_3
                        try clear hcz96_0
                        try clear hcz96_1
                        try clear hcz96_2
                        try clear hcz96_3
                        try clear hcz99_0
                        try clear hcz99_1
                        try clear hcz99_2
                        try clear hcz99_3
                        try clear hcz99_4
                        try clear hfz103_0
                        try clear hfz103_1
                        try clear hfz103_2
                        try clear hfz103_3
                        try clear hfz11_0
                        try clear hfz11_1
                        try clear hfz11_2
                        try clear hfz11_3
                        try clear hfz18_0
                        try clear hfz18_1
                        try clear hfz18_2
                        try clear hfz18_3
                        try clear hfz18_4
                        try clear hfz23_0
                        try clear hfz23_1
                        try clear hfz23_2
                        try clear hfz23_3
                        try clear hfz23_4
                        try clear hfz28_0
                        try clear hfz28_1
                        try clear hfz28_2
                        try clear hfz28_3
                        try clear hfz28_4
                        try clear hfz34_0
                        try clear hfz34_1
                        try clear hfz34_2
                        try clear hfz34_3
                        try clear hfz37_0
                        try clear hfz37_1
                        try clear hfz37_2
                        try clear hfz37_3
                        try clear hfz44_0
                        try clear hfz44_1
                        try clear hfz44_2
                        try clear hfz44_3
                        try clear hfz47_0
                        try clear hfz47_1
                        try clear hfz47_2
                        try clear hfz47_3
                        try clear hfz53_0
                        try clear hfz53_1
                        try clear hfz53_2
                        try clear hfz53_3
                        try clear hfz53_4
                        try clear hfz60_0
                        try clear hfz60_1
                        try clear hfz60_2
                        try clear hfz60_3
                        try clear hfz66_0
                        try clear hfz66_1
                        try clear hfz66_2
                        try clear hfz66_3
                        try clear hfz73_0
                        try clear hfz73_1
                        try clear hfz73_2
                        try clear hfz73_3
                        try clear hfz78_0
                        try clear hfz78_1
                        try clear hfz78_2
                        try clear hfz78_3
                        try clear hfz82_0
                        try clear hfz82_1
                        try clear hfz82_2
                        try clear hfz82_3
                        try clear hfz90_0
                        try clear hfz90_1
                        try clear hfz90_2
                        try clear hfz90_3
                        try clear hfz96_0
                        try clear hfz96_1
                        try clear hfz96_2
                        try clear hfz96_3
                        try clear hfz99_0
                        try clear hfz99_1
                        try clear hfz99_2
                        try clear hfz99_3
                        try clear hfz99_4
                        try clear p2
                        try clear p6
                        try clear p64
                        obtain ⟨kq, x61_90, rfl, HA, HJ90, BK228, BK229, BK230, HI0, HK, HB⟩ := hcut
                        cases kq with
                        | zero => exact absurd HA.out (by simp [revenantref34_Mint_Op.j4])
                        | succ kj90 =>
                          have H := HA.out
                          clear HA
                          simp only [revenantref34_Mint_Op.j4] at H
                          by_cases c104 : x61_90 = true
                          · subst c104
                            have H1 : (revenantref34_Mint_Op.l0 kj90 x1000_82 a1_0 a1_1 a1_2 a1_3 a1_4 x231000_47 (IntKind.u64.wrap (t238)) x231002_82 1) = some (r1, r2, r3, r4, r5) := by rw [if_pos rfl] at H; exact H
                            clear H
                            have H := H1
                            clear H1
                            have H' := Aside0.mk H
                            clear H
                            have hnb105 := NB230_228.out
                            have hnc105 := NB228_230.out
                            have hnb106 := NB230_229.out
                            have hnc106 := NB229_230.out
                            have hnb107 := NB230_0.out
                            have hnc107 := NB0_230.out
                            have hcz108_0 : wc.cell? ⟨gb230, 0, none⟩ = some (.int .i64 x231000_47) := (blk_cell BK230.out 0).trans rfl
                            have hcz108_1 : wc.cell? ⟨gb230, 1, none⟩ = some (.int .u64 (IntKind.u64.wrap (t238))) := (blk_cell BK230.out 1).trans rfl
                            have hcz108_2 : wc.cell? ⟨gb230, 2, none⟩ = some (.int .u64 x231002_82) := (blk_cell BK230.out 2).trans rfl
                            have hcz108_3 : wc.cell? ⟨gb230, 3, none⟩ = some (.int .i64 0) := (blk_cell BK230.out 3).trans rfl
                            have hfz108_0 := blk_frozen BK230.out 0
                            have hfz108_1 := blk_frozen BK230.out 1
                            have hfz108_2 := blk_frozen BK230.out 2
                            have hfz108_3 := blk_frozen BK230.out 3
                            go_wp2
                            go_loopg [] kj90 (fun kq w' => ∃ (x1000_6 : Int) (x231003_6 : Int), Aside0 (revenantref34_Mint_Op.l0 kq x1000_6 a1_0 a1_1 a1_2 a1_3 a1_4 x231000_47 (IntKind.u64.wrap (t238)) x231002_82 x231003_6 = some (r1, r2, r3, r4, r5)) ∧ Aside0 (kq ≤ kj90) ∧ Aside0 (w'.heap[gb228]? = some (.cells #[.int .i64 a1_0, .int .i64 a1_1, .int .i64 a1_2, .int .i64 a1_3, .int .i64 a1_4] 31 (0, 0))) ∧ Aside0 (w'.heap[gb229]? = some (.cells #[.int .i64 0, .int .u64 0, .int .u64 0, .int .i64 0] 37 (0, 0))) ∧ Aside0 (w'.heap[gb230]? = some (.cells #[.int .i64 x231000_47, .int .u64 (IntKind.u64.wrap (t238)), .int .u64 x231002_82, .int .i64 x231003_6] 37 (0, 0))) ∧ Aside0 (IsS73 w0 w' g x1000_6) ∧ Aside0 (KeepBut w w' g none) ∧ Aside0 (Below w0.heap.size w0 w'))
                            case atStart => exact ⟨(x1000_82), (1), H', ⟨Nat.le_refl _⟩, ⟨by (with_reducible repeat (first | refine blk_drewN ?_ _ | refine blk_drew ?_ | refine blk_alloc ?_ _)); refine blk_far ?_ NB228_230.out _; (with_reducible repeat (first | refine blk_drewN ?_ _ | refine blk_drew ?_ | refine blk_alloc ?_ _)); exact BK228.out⟩, ⟨by (with_reducible repeat (first | refine blk_drewN ?_ _ | refine blk_drew ?_ | refine blk_alloc ?_ _)); refine blk_far ?_ NB229_230.out _; (with_reducible repeat (first | refine blk_drewN ?_ _ | refine blk_drew ?_ | refine blk_alloc ?_ _)); exact BK229.out⟩, ⟨by (with_reducible repeat (first | refine blk_drewN ?_ _ | refine blk_drew ?_ | refine blk_alloc ?_ _)); refine blk_put (cs := #[.int .i64 x231000_47, .int .u64 (IntKind.u64.wrap (t238)), .int .u64 x231002_82, .int .i64 0]) ?_ 3 _ rfl; (with_reducible repeat (first | refine blk_drewN ?_ _ | refine blk_drew ?_ | refine blk_alloc ?_ _)); exact BK230.out⟩, ⟨by repeat (first | (with_reducible first | exact HI0.out | apply IsS73.alloc | apply IsS73.drewN | apply IsS73.drew | apply IsS73.set_0 | refine IsS73.far ?_ NB0_228.out _ | refine IsS73.far ?_ NB0_229.out _ | refine IsS73.far ?_ NB0_230.out _) | exact HI0.out)⟩, ⟨by repeat (first | (with_reducible first | exact HK.out | apply KeepBut.set_ | apply keep_drewN | apply keep_drew | apply keep_alloc | refine keep_far ?_ GW228.out _ | refine keep_far ?_ GW229.out _ | refine keep_far ?_ GW230.out _) | exact HK.out)⟩, ⟨by repeat (first | (with_reducible first | exact HB.out | apply below_alloc | apply pw_below_drewN | apply below_drew1 | refine below_set ?_ (IsS73.ge HI0.out) | refine below_set ?_ GE228.out | refine below_set ?_ GE229.out | refine below_set ?_ GE230.out) | exact HB.out)⟩⟩
                            case round =>
                              clear H'
                              try clear c1
                              try clear c2
                              try clear p2
                              try clear c3
                              try clear c4
                              try clear c5
                              try clear c6
                              try clear p6
                              try clear c7
                              try clear c8
                              try clear c9
                              try clear c10
                              try clear c13
                              try clear c13b0
                              try clear c13b1
                              try clear c14
                              try clear c14b0
                              try clear c15
                              try clear c16
                              try clear c17
                              try clear c20
                              try clear c21
                              try clear c22
                              try clear c23
                              try clear c25
                              try clear c26
                              try clear c27
                              try clear c30
                              try clear c31
                              try clear c32
                              try clear c33
                              try clear c35
                              try clear c36
                              try clear c39
                              try clear c39b0
                              try clear c39b1
                              try clear c41
                              try clear c42
                              try clear c43
                              try clear c45
                              try clear c46
                              try clear c50
                              try clear c51
                              try clear c52
                              try clear c54
                              try clear c54b0
                              try clear c54b1
                              try clear c57
                              try clear c58
                              try clear c59
                              try clear c63
                              try clear c64
                              try clear p64
                              try clear c65
                              try clear c70
                              try clear c71
                              try clear c72
                              try clear c74
                              try clear c74b0
                              try clear c74b1
                              try clear c75
                              try clear c76
                              try clear c77
                              try clear c79
                              try clear c80
                              try clear c81
                              try clear c84
                              try clear c87
                              try clear c88
                              try clear c89
                              try clear c92
                              try clear c92b0
                              try clear c92b1
                              try clear c93
                              try clear c94
                              try clear c95
                              try clear c97
                              try clear c98
                              try clear c100
                              try clear c101
                              try clear c102
                              try clear c104
                              try clear c105
                              try clear c106
                              try clear c107
                              try clear hcz103_0
                              try clear hcz103_1
                              try clear hcz103_2
                              try clear hcz103_3
                              try clear hcz108_0
                              try clear hcz108_1
                              try clear hcz108_2
                              try clear hcz108_3
                              try clear hcz11_0
                              try clear hcz11_1
                              try clear hcz11_2
                              try clear hcz11_3
                              try clear hcz18_0
                              try clear hcz18_1
                              try clear hcz18_2
                              try clear hcz18_3
                              try clear hcz18_4
                              try clear hcz23_0
                              try clear hcz23_1
                              try clear hcz23_2
                              try clear hcz23_3
                              try clear hcz23_4
                              try clear hcz28_0
                              try clear hcz28_1
                              try clear hcz28_2
                              try clear hcz28_3
                              try clear hcz28_4
                              try clear hcz34_0
                              try clear hcz34_1
                              try clear hcz34_2
                              try clear hcz34_3
                              try clear hcz37_0
                              try clear hcz37_1
                              try clear hcz37_2
                              try clear hcz37_3
                              try clear hcz44_0
                              try clear hcz44_1
                              try clear hcz44_2
                              try clear hcz44_3
                              try clear hcz47_0
                              try clear hcz47_1
                              try clear hcz47_2
                              try clear hcz47_3
                              try clear hcz53_0
                              try clear hcz53_1
                              try clear hcz53_2
                              try clear hcz53_3
                              try clear hcz53_4
                              try clear hcz60_0
                              try clear hcz60_1
                              try clear hcz60_2
                              try clear hcz60_3
                              try clear hcz66_0
                              try clear hcz66_1
                              try clear hcz66_2
                              try clear hcz66_3
                              try clear hcz73_0
                              try clear hcz73_1
                              try clear hcz73_2
                              try clear hcz73_3
                              try clear hcz78_0
                              try clear hcz78_1
                              try clear hcz78_2
                              try clear hcz78_3
                              try clear hcz82_0
                              try clear hcz82_1
                              try clear hcz82_2
                              try clear hcz82_3
                              try clear hcz90_0
                              try clear hcz90_1
                              try clear hcz90_2
                              try clear hcz90_3
                              try clear hcz96_0
                              try clear hcz96_1
                              try clear hcz96_2
                              try clear hcz96_3
                              try clear hcz99_0
                              try clear hcz99_1
                              try clear hcz99_2
                              try clear hcz99_3
                              try clear hcz99_4
                              try clear hfz103_0
                              try clear hfz103_1
                              try clear hfz103_2
                              try clear hfz103_3
                              try clear hfz108_0
                              try clear hfz108_1
                              try clear hfz108_2
                              try clear hfz108_3
                              try clear hfz11_0
                              try clear hfz11_1
                              try clear hfz11_2
                              try clear hfz11_3
                              try clear hfz18_0
                              try clear hfz18_1
                              try clear hfz18_2
                              try clear hfz18_3
                              try clear hfz18_4
                              try clear hfz23_0
                              try clear hfz23_1
                              try clear hfz23_2
                              try clear hfz23_3
                              try clear hfz23_4
                              try clear hfz28_0
                              try clear hfz28_1
                              try clear hfz28_2
                              try clear hfz28_3
                              try clear hfz28_4
                              try clear hfz34_0
                              try clear hfz34_1
                              try clear hfz34_2
                              try clear hfz34_3
                              try clear hfz37_0
                              try clear hfz37_1
                              try clear hfz37_2
                              try clear hfz37_3
                              try clear hfz44_0
                              try clear hfz44_1
                              try clear hfz44_2
                              try clear hfz44_3
                              try clear hfz47_0
                              try clear hfz47_1
                              try clear hfz47_2
                              try clear hfz47_3
                              try clear hfz53_0
                              try clear hfz53_1
                              try clear hfz53_2
                              try clear hfz53_3
                              try clear hfz53_4
                              try clear hfz60_0
                              try clear hfz60_1
                              try clear hfz60_2
                              try clear hfz60_3
                              try clear hfz66_0
                              try clear hfz66_1
                              try clear hfz66_2
                              try clear hfz66_3
                              try clear hfz73_0
                              try clear hfz73_1
                              try clear hfz73_2
                              try clear hfz73_3
                              try clear hfz78_0
                              try clear hfz78_1
                              try clear hfz78_2
                              try clear hfz78_3
                              try clear hfz82_0
                              try clear hfz82_1
                              try clear hfz82_2
                              try clear hfz82_3
                              try clear hfz90_0
                              try clear hfz90_1
                              try clear hfz90_2
                              try clear hfz90_3
                              try clear hfz96_0
                              try clear hfz96_1
                              try clear hfz96_2
                              try clear hfz96_3
                              try clear hfz99_0
                              try clear hfz99_1
                              try clear hfz99_2
                              try clear hfz99_3
                              try clear hfz99_4
                              try clear p2
                              try clear p6
                              try clear p64
                              obtain ⟨x1000_6, x231003_6, HA, HK6, BK228, BK229, BK230, HI0, HK, HB⟩ := hrel
                              cases gk with
                              | zero => exact absurd HA.out (by simp [revenantref34_Mint_Op.l0])
                              | succ k6 =>
                                have H := HA.out
                                clear HA
                                simp only [revenantref34_Mint_Op.l0] at H
                                by_cases c109 : x231003_6 < a1_3
                                · rw [if_pos c109] at H
                                  have c109b0 : decide (x231003_6 < a1_3) = true := decide_eq_true c109
                                  clear c109
                                  replace H := Option.bind_eq_some_iff.mp H
                                  obtain ⟨⟨t242, t243⟩, A1100, H⟩ := H
                                  replace H : (if t242 = 0 then (revenantref34_Mint_Op.l0 k6 t243 a1_0 a1_1 a1_2 a1_3 a1_4 x231000_47 (IntKind.u64.wrap (t238)) x231002_82 (wrap64 (x231003_6 + 1))) else (some (x231000_47, (IntKind.u64.wrap (t238)), x231002_82, x231003_6, t243))) = some (r1, r2, r3, r4, r5) := H
                                  have A110 := Aside0.mk A1100
                                  clear A1100
                                  by_cases c111 : t242 = 0
                                  · rw [if_pos c111] at H
                                    have c111b0 : (t242 == 0) = true := beq_iff_eq.mpr c111
                                    have c111b1 : (t242 != 0) = false := bne_eq_false_iff_eq.mpr c111
                                    clear c111
                                    have H' := Aside0.mk H
                                    clear H
                                    have hnb112 := NB230_228.out
                                    have hnc112 := NB228_230.out
                                    have hnb113 := NB230_229.out
                                    have hnc113 := NB229_230.out
                                    have hnb114 := NB230_0.out
                                    have hnc114 := NB0_230.out
                                    have hcz115_0 : wr.cell? ⟨gb230, 0, none⟩ = some (.int .i64 x231000_47) := (blk_cell BK230.out 0).trans rfl
                                    have hcz115_1 : wr.cell? ⟨gb230, 1, none⟩ = some (.int .u64 (IntKind.u64.wrap (t238))) := (blk_cell BK230.out 1).trans rfl
                                    have hcz115_2 : wr.cell? ⟨gb230, 2, none⟩ = some (.int .u64 x231002_82) := (blk_cell BK230.out 2).trans rfl
                                    have hcz115_3 : wr.cell? ⟨gb230, 3, none⟩ = some (.int .i64 x231003_6) := (blk_cell BK230.out 3).trans rfl
                                    have hfz115_0 := blk_frozen BK230.out 0
                                    have hfz115_1 := blk_frozen BK230.out 1
                                    have hfz115_2 := blk_frozen BK230.out 2
                                    have hfz115_3 := blk_frozen BK230.out 3
                                    have hnb116 := NB228_229.out
                                    have hnc116 := NB229_228.out
                                    have hnb117 := NB228_0.out
                                    have hnc117 := NB0_228.out
                                    have hcz118_0 : wr.cell? ⟨gb228, 0, none⟩ = some (.int .i64 a1_0) := (blk_cell BK228.out 0).trans rfl
                                    have hcz118_1 : wr.cell? ⟨gb228, 1, none⟩ = some (.int .i64 a1_1) := (blk_cell BK228.out 1).trans rfl
                                    have hcz118_2 : wr.cell? ⟨gb228, 2, none⟩ = some (.int .i64 a1_2) := (blk_cell BK228.out 2).trans rfl
                                    have hcz118_3 : wr.cell? ⟨gb228, 3, none⟩ = some (.int .i64 a1_3) := (blk_cell BK228.out 3).trans rfl
                                    have hcz118_4 : wr.cell? ⟨gb228, 4, none⟩ = some (.int .i64 a1_4) := (blk_cell BK228.out 4).trans rfl
                                    have hfz118_0 := blk_frozen BK228.out 0
                                    have hfz118_1 := blk_frozen BK228.out 1
                                    have hfz118_2 := blk_frozen BK228.out 2
                                    have hfz118_3 := blk_frozen BK228.out 3
                                    have hfz118_4 := blk_frozen BK228.out 4
                                    go_wp2_with (first | (go_at_call 36; (with_reducible refine (revenantref34_Mint_Below.calls g x1000_6 2 t242 t243 w0 _ ?side1 ?side2 A110.out).mono ?_); (case side1 => repeat (first | (with_reducible first | exact HI0.out | apply IsS73.alloc | apply IsS73.drewN | apply IsS73.drew | apply IsS73.set_0 | refine IsS73.far ?_ NB0_228.out _ | refine IsS73.far ?_ NB0_229.out _ | refine IsS73.far ?_ NB0_230.out _) | exact HI0.out)); (case side2 => repeat (first | (with_reducible first | exact HB.out | apply below_alloc | apply pw_below_drewN | apply below_drew1 | refine below_set ?_ (IsS73.ge HI0.out) | refine below_set ?_ GE228.out | refine below_set ?_ GE229.out | refine below_set ?_ GE230.out) | exact HB.out)); rintro e w119 ⟨rfl, hi, hb, hk⟩; have n0_ := Aside0.mk (KeepBut.blk hk (g' := gb228) (o := .cells #[.int .i64 a1_0, .int .i64 a1_1, .int .i64 a1_2, .int .i64 a1_3, .int .i64 a1_4] 31 (0, 0)) (by (with_reducible repeat (first | refine blk_drewN ?_ _ | refine blk_drew ?_ | refine blk_alloc ?_ _)); exact BK228.out) NB228_0.out (by simp)); have n1_ := Aside0.mk (KeepBut.blk hk (g' := gb229) (o := .cells #[.int .i64 0, .int .u64 0, .int .u64 0, .int .i64 0] 37 (0, 0)) (by (with_reducible repeat (first | refine blk_drewN ?_ _ | refine blk_drew ?_ | refine blk_alloc ?_ _)); exact BK229.out) NB229_0.out (by simp)); have n2_ := Aside0.mk (KeepBut.blk hk (g' := gb230) (o := .cells #[.int .i64 x231000_47, .int .u64 (IntKind.u64.wrap (t238)), .int .u64 x231002_82, .int .i64 x231003_6] 37 (0, 0)) (by (with_reducible repeat (first | refine blk_drewN ?_ _ | refine blk_drew ?_ | refine blk_alloc ?_ _)); exact BK230.out) NB230_0.out (by simp)); have n3_ := Aside0.mk (KeepBut.trans (by repeat (first | (with_reducible first | exact HK.out | apply KeepBut.set_ | apply keep_drewN | apply keep_drew | apply keep_alloc | refine keep_far ?_ GW228.out _ | refine keep_far ?_ GW229.out _ | refine keep_far ?_ GW230.out _) | exact HK.out)) hk (.inl rfl)); have n4_ := Aside0.mk (hb); have n5_ := Aside0.mk (hi); clear BK228; clear BK229; clear BK230; clear HK; clear HB; clear HI0; have BK228 := n0_; have BK229 := n1_; have BK230 := n2_; have HK := n3_; have HB := n4_; have HI0 := n5_; clear n0_ n1_ n2_ n3_ n4_ n5_; (try clear hb); (try clear hb2); (try clear hk); (try clear hi); have hcz120_0 : w119.cell? ⟨gb230, 0, none⟩ = some (.int .i64 x231000_47) := (blk_cell BK230.out 0).trans rfl; have hcz120_1 : w119.cell? ⟨gb230, 1, none⟩ = some (.int .u64 (IntKind.u64.wrap (t238))) := (blk_cell BK230.out 1).trans rfl; have hcz120_2 : w119.cell? ⟨gb230, 2, none⟩ = some (.int .u64 x231002_82) := (blk_cell BK230.out 2).trans rfl; have hcz120_3 : w119.cell? ⟨gb230, 3, none⟩ = some (.int .i64 x231003_6) := (blk_cell BK230.out 3).trans rfl; have hfz120_0 := blk_frozen BK230.out 0; have hfz120_1 := blk_frozen BK230.out 1; have hfz120_2 := blk_frozen BK230.out 2; have hfz120_3 := blk_frozen BK230.out 3))
                                    go_roundg k6
                                    case measure => have := HJ3.out; have := HJ47.out; have := HJ67.out; have := HJ82.out; have := HJ90.out; have := HK6.out; omega
                                    case rel => exact ⟨(t243), (wrap64 (x231003_6 + 1)), H', ⟨by have := HJ3.out; have := HJ47.out; have := HJ67.out; have := HJ82.out; have := HJ90.out; have := HK6.out; omega⟩, ⟨by (with_reducible repeat (first | refine blk_drewN ?_ _ | refine blk_drew ?_ | refine blk_alloc ?_ _)); refine blk_far ?_ NB228_230.out _; (with_reducible repeat (first | refine blk_drewN ?_ _ | refine blk_drew ?_ | refine blk_alloc ?_ _)); exact BK228.out⟩, ⟨by (with_reducible repeat (first | refine blk_drewN ?_ _ | refine blk_drew ?_ | refine blk_alloc ?_ _)); refine blk_far ?_ NB229_230.out _; (with_reducible repeat (first | refine blk_drewN ?_ _ | refine blk_drew ?_ | refine blk_alloc ?_ _)); exact BK229.out⟩, ⟨by (with_reducible repeat (first | refine blk_drewN ?_ _ | refine blk_drew ?_ | refine blk_alloc ?_ _)); refine blk_put (cs := #[.int .i64 x231000_47, .int .u64 (IntKind.u64.wrap (t238)), .int .u64 x231002_82, .int .i64 x231003_6]) ?_ 3 _ rfl; (with_reducible repeat (first | refine blk_drewN ?_ _ | refine blk_drew ?_ | refine blk_alloc ?_ _)); exact BK230.out⟩, ⟨by repeat (first | (with_reducible first | exact HI0.out | apply IsS73.alloc | apply IsS73.drewN | apply IsS73.drew | apply IsS73.set_0 | refine IsS73.far ?_ NB0_228.out _ | refine IsS73.far ?_ NB0_229.out _ | refine IsS73.far ?_ NB0_230.out _) | exact HI0.out)⟩, ⟨by repeat (first | (with_reducible first | exact HK.out | apply KeepBut.set_ | apply keep_drewN | apply keep_drew | apply keep_alloc | refine keep_far ?_ GW228.out _ | refine keep_far ?_ GW229.out _ | refine keep_far ?_ GW230.out _) | exact HK.out)⟩, ⟨by repeat (first | (with_reducible first | exact HB.out | apply below_alloc | apply pw_below_drewN | apply below_drew1 | refine below_set ?_ (IsS73.ge HI0.out) | refine below_set ?_ GE228.out | refine below_set ?_ GE229.out | refine below_set ?_ GE230.out) | exact HB.out)⟩⟩
                                  · rw [if_neg c111] at H
                                    have c111b0 : (t242 == 0) = false := beq_eq_false_iff_ne.mpr c111
                                    have c111b1 : (t242 != 0) = true := bne_iff_ne.mpr c111
                                    simp only [Option.some.injEq, Prod.mk.injEq] at H
                                    obtain ⟨rfl, rfl, rfl, rfl, rfl⟩ := H
                                    have hnb121 := NB230_228.out
                                    have hnc121 := NB228_230.out
                                    have hnb122 := NB230_229.out
                                    have hnc122 := NB229_230.out
                                    have hnb123 := NB230_0.out
                                    have hnc123 := NB0_230.out
                                    have hcz124_0 : wr.cell? ⟨gb230, 0, none⟩ = some (.int .i64 x231000_47) := (blk_cell BK230.out 0).trans rfl
                                    have hcz124_1 : wr.cell? ⟨gb230, 1, none⟩ = some (.int .u64 (IntKind.u64.wrap (t238))) := (blk_cell BK230.out 1).trans rfl
                                    have hcz124_2 : wr.cell? ⟨gb230, 2, none⟩ = some (.int .u64 x231002_82) := (blk_cell BK230.out 2).trans rfl
                                    have hcz124_3 : wr.cell? ⟨gb230, 3, none⟩ = some (.int .i64 x231003_6) := (blk_cell BK230.out 3).trans rfl
                                    have hfz124_0 := blk_frozen BK230.out 0
                                    have hfz124_1 := blk_frozen BK230.out 1
                                    have hfz124_2 := blk_frozen BK230.out 2
                                    have hfz124_3 := blk_frozen BK230.out 3
                                    have hnb125 := NB228_229.out
                                    have hnc125 := NB229_228.out
                                    have hnb126 := NB228_0.out
                                    have hnc126 := NB0_228.out
                                    have hcz127_0 : wr.cell? ⟨gb228, 0, none⟩ = some (.int .i64 a1_0) := (blk_cell BK228.out 0).trans rfl
                                    have hcz127_1 : wr.cell? ⟨gb228, 1, none⟩ = some (.int .i64 a1_1) := (blk_cell BK228.out 1).trans rfl
                                    have hcz127_2 : wr.cell? ⟨gb228, 2, none⟩ = some (.int .i64 a1_2) := (blk_cell BK228.out 2).trans rfl
                                    have hcz127_3 : wr.cell? ⟨gb228, 3, none⟩ = some (.int .i64 a1_3) := (blk_cell BK228.out 3).trans rfl
                                    have hcz127_4 : wr.cell? ⟨gb228, 4, none⟩ = some (.int .i64 a1_4) := (blk_cell BK228.out 4).trans rfl
                                    have hfz127_0 := blk_frozen BK228.out 0
                                    have hfz127_1 := blk_frozen BK228.out 1
                                    have hfz127_2 := blk_frozen BK228.out 2
                                    have hfz127_3 := blk_frozen BK228.out 3
                                    have hfz127_4 := blk_frozen BK228.out 4
                                    go_wp2_with (first | (go_at_call 36; (with_reducible refine (revenantref34_Mint_Below.calls g x1000_6 2 t242 t243 w0 _ ?side1 ?side2 A110.out).mono ?_); (case side1 => repeat (first | (with_reducible first | exact HI0.out | apply IsS73.alloc | apply IsS73.drewN | apply IsS73.drew | apply IsS73.set_0 | refine IsS73.far ?_ NB0_228.out _ | refine IsS73.far ?_ NB0_229.out _ | refine IsS73.far ?_ NB0_230.out _) | exact HI0.out)); (case side2 => repeat (first | (with_reducible first | exact HB.out | apply below_alloc | apply pw_below_drewN | apply below_drew1 | refine below_set ?_ (IsS73.ge HI0.out) | refine below_set ?_ GE228.out | refine below_set ?_ GE229.out | refine below_set ?_ GE230.out) | exact HB.out)); rintro e w128 ⟨rfl, hi, hb, hk⟩; have n0_ := Aside0.mk (KeepBut.blk hk (g' := gb228) (o := .cells #[.int .i64 a1_0, .int .i64 a1_1, .int .i64 a1_2, .int .i64 a1_3, .int .i64 a1_4] 31 (0, 0)) (by (with_reducible repeat (first | refine blk_drewN ?_ _ | refine blk_drew ?_ | refine blk_alloc ?_ _)); exact BK228.out) NB228_0.out (by simp)); have n1_ := Aside0.mk (KeepBut.blk hk (g' := gb229) (o := .cells #[.int .i64 0, .int .u64 0, .int .u64 0, .int .i64 0] 37 (0, 0)) (by (with_reducible repeat (first | refine blk_drewN ?_ _ | refine blk_drew ?_ | refine blk_alloc ?_ _)); exact BK229.out) NB229_0.out (by simp)); have n2_ := Aside0.mk (KeepBut.blk hk (g' := gb230) (o := .cells #[.int .i64 x231000_47, .int .u64 (IntKind.u64.wrap (t238)), .int .u64 x231002_82, .int .i64 x231003_6] 37 (0, 0)) (by (with_reducible repeat (first | refine blk_drewN ?_ _ | refine blk_drew ?_ | refine blk_alloc ?_ _)); exact BK230.out) NB230_0.out (by simp)); have n3_ := Aside0.mk (KeepBut.trans (by repeat (first | (with_reducible first | exact HK.out | apply KeepBut.set_ | apply keep_drewN | apply keep_drew | apply keep_alloc | refine keep_far ?_ GW228.out _ | refine keep_far ?_ GW229.out _ | refine keep_far ?_ GW230.out _) | exact HK.out)) hk (.inl rfl)); have n4_ := Aside0.mk (hb); have n5_ := Aside0.mk (hi); clear BK228; clear BK229; clear BK230; clear HK; clear HB; clear HI0; have BK228 := n0_; have BK229 := n1_; have BK230 := n2_; have HK := n3_; have HB := n4_; have HI0 := n5_; clear n0_ n1_ n2_ n3_ n4_ n5_; (try clear hb); (try clear hb2); (try clear hk); (try clear hi); have hcz129_0 : w128.cell? ⟨gb230, 0, none⟩ = some (.int .i64 x231000_47) := (blk_cell BK230.out 0).trans rfl; have hcz129_1 : w128.cell? ⟨gb230, 1, none⟩ = some (.int .u64 (IntKind.u64.wrap (t238))) := (blk_cell BK230.out 1).trans rfl; have hcz129_2 : w128.cell? ⟨gb230, 2, none⟩ = some (.int .u64 x231002_82) := (blk_cell BK230.out 2).trans rfl; have hcz129_3 : w128.cell? ⟨gb230, 3, none⟩ = some (.int .i64 x231003_6) := (blk_cell BK230.out 3).trans rfl; have hfz129_0 := blk_frozen BK230.out 0; have hfz129_1 := blk_frozen BK230.out 1; have hfz129_2 := blk_frozen BK230.out 2; have hfz129_3 := blk_frozen BK230.out 3; have hnb130 := NB229_0.out; have hnc130 := NB0_229.out; have hcz131_0 : w128.cell? ⟨gb229, 0, none⟩ = some (.int .i64 0) := (blk_cell BK229.out 0).trans rfl; have hcz131_1 : w128.cell? ⟨gb229, 1, none⟩ = some (.int .u64 0) := (blk_cell BK229.out 1).trans rfl; have hcz131_2 : w128.cell? ⟨gb229, 2, none⟩ = some (.int .u64 0) := (blk_cell BK229.out 2).trans rfl; have hcz131_3 : w128.cell? ⟨gb229, 3, none⟩ = some (.int .i64 0) := (blk_cell BK229.out 3).trans rfl; have hfz131_0 := blk_frozen BK229.out 0; have hfz131_1 := blk_frozen BK229.out 1; have hfz131_2 := blk_frozen BK229.out 2; have hfz131_3 := blk_frozen BK229.out 3))
                                    refine bodyPost_ret (results_cell_row rfl _ _ gb229 37 #[.int .i64 x231000_47, .int .u64 (IntKind.u64.wrap (t238)), .int .u64 x231002_82, .int .i64 x231003_6] (0, 0) _ rfl (by (with_reducible repeat (first | refine blk_drewN ?_ _ | refine blk_drew ?_ | refine blk_alloc ?_ _)); refine blk_put (cs := #[.int .i64 x231000_47, .int .u64 (IntKind.u64.wrap (t238)), .int .u64 x231002_82, .int .i64 0]) ?_ 3 _ rfl; (with_reducible repeat (first | refine blk_drewN ?_ _ | refine blk_drew ?_ | refine blk_alloc ?_ _)); refine blk_put (cs := #[.int .i64 x231000_47, .int .u64 (IntKind.u64.wrap (t238)), .int .u64 0, .int .i64 0]) ?_ 2 _ rfl; (with_reducible repeat (first | refine blk_drewN ?_ _ | refine blk_drew ?_ | refine blk_alloc ?_ _)); refine blk_put (cs := #[.int .i64 x231000_47, .int .u64 0, .int .u64 0, .int .i64 0]) ?_ 1 _ rfl; (with_reducible repeat (first | refine blk_drewN ?_ _ | refine blk_drew ?_ | refine blk_alloc ?_ _)); refine blk_put (cs := #[.int .i64 0, .int .u64 0, .int .u64 0, .int .i64 0]) ?_ 0 _ rfl; (with_reducible repeat (first | refine blk_drewN ?_ _ | refine blk_drew ?_ | refine blk_alloc ?_ _)); exact BK229.out) Try.underlying37 rfl (by kernel_rfl)) rfl ?_
                                    exact ⟨by first | rfl | (simp [errW_none, errW_some] <;> rfl) | (simp [*, errW_none, errW_some] <;> rfl), by repeat (first | (with_reducible first | exact HI0.out | apply IsS73.alloc | apply IsS73.drewN | apply IsS73.drew | apply IsS73.set_0 | refine IsS73.far ?_ NB0_228.out _ | refine IsS73.far ?_ NB0_229.out _ | refine IsS73.far ?_ NB0_230.out _) | exact HI0.out), by repeat (first | (with_reducible first | exact HB.out | apply below_alloc | apply pw_below_drewN | apply below_drew1 | refine below_set ?_ (IsS73.ge HI0.out) | refine below_set ?_ GE228.out | refine below_set ?_ GE229.out | refine below_set ?_ GE230.out) | exact HB.out), by repeat (first | (with_reducible first | exact HK.out | apply KeepBut.set_ | apply keep_drewN | apply keep_drew | apply keep_alloc | refine keep_far ?_ GW228.out _ | refine keep_far ?_ GW229.out _ | refine keep_far ?_ GW230.out _) | exact HK.out)⟩
                                · rw [if_neg c109] at H
                                  have c109b0 : decide (x231003_6 < a1_3) = false := decide_eq_false c109
                                  clear c109
                                  simp only [Option.some.injEq, Prod.mk.injEq] at H
                                  obtain ⟨rfl, rfl, rfl, rfl, rfl⟩ := H
                                  have hnb132 := NB230_228.out
                                  have hnc132 := NB228_230.out
                                  have hnb133 := NB230_229.out
                                  have hnc133 := NB229_230.out
                                  have hnb134 := NB230_0.out
                                  have hnc134 := NB0_230.out
                                  have hcz135_0 : wr.cell? ⟨gb230, 0, none⟩ = some (.int .i64 x231000_47) := (blk_cell BK230.out 0).trans rfl
                                  have hcz135_1 : wr.cell? ⟨gb230, 1, none⟩ = some (.int .u64 (IntKind.u64.wrap (t238))) := (blk_cell BK230.out 1).trans rfl
                                  have hcz135_2 : wr.cell? ⟨gb230, 2, none⟩ = some (.int .u64 x231002_82) := (blk_cell BK230.out 2).trans rfl
                                  have hcz135_3 : wr.cell? ⟨gb230, 3, none⟩ = some (.int .i64 x231003_6) := (blk_cell BK230.out 3).trans rfl
                                  have hfz135_0 := blk_frozen BK230.out 0
                                  have hfz135_1 := blk_frozen BK230.out 1
                                  have hfz135_2 := blk_frozen BK230.out 2
                                  have hfz135_3 := blk_frozen BK230.out 3
                                  have hnb136 := NB228_229.out
                                  have hnc136 := NB229_228.out
                                  have hnb137 := NB228_0.out
                                  have hnc137 := NB0_228.out
                                  have hcz138_0 : wr.cell? ⟨gb228, 0, none⟩ = some (.int .i64 a1_0) := (blk_cell BK228.out 0).trans rfl
                                  have hcz138_1 : wr.cell? ⟨gb228, 1, none⟩ = some (.int .i64 a1_1) := (blk_cell BK228.out 1).trans rfl
                                  have hcz138_2 : wr.cell? ⟨gb228, 2, none⟩ = some (.int .i64 a1_2) := (blk_cell BK228.out 2).trans rfl
                                  have hcz138_3 : wr.cell? ⟨gb228, 3, none⟩ = some (.int .i64 a1_3) := (blk_cell BK228.out 3).trans rfl
                                  have hcz138_4 : wr.cell? ⟨gb228, 4, none⟩ = some (.int .i64 a1_4) := (blk_cell BK228.out 4).trans rfl
                                  have hfz138_0 := blk_frozen BK228.out 0
                                  have hfz138_1 := blk_frozen BK228.out 1
                                  have hfz138_2 := blk_frozen BK228.out 2
                                  have hfz138_3 := blk_frozen BK228.out 3
                                  have hfz138_4 := blk_frozen BK228.out 4
                                  have hnb139 := NB229_0.out
                                  have hnc139 := NB0_229.out
                                  have hcz140_0 : wr.cell? ⟨gb229, 0, none⟩ = some (.int .i64 0) := (blk_cell BK229.out 0).trans rfl
                                  have hcz140_1 : wr.cell? ⟨gb229, 1, none⟩ = some (.int .u64 0) := (blk_cell BK229.out 1).trans rfl
                                  have hcz140_2 : wr.cell? ⟨gb229, 2, none⟩ = some (.int .u64 0) := (blk_cell BK229.out 2).trans rfl
                                  have hcz140_3 : wr.cell? ⟨gb229, 3, none⟩ = some (.int .i64 0) := (blk_cell BK229.out 3).trans rfl
                                  have hfz140_0 := blk_frozen BK229.out 0
                                  have hfz140_1 := blk_frozen BK229.out 1
                                  have hfz140_2 := blk_frozen BK229.out 2
                                  have hfz140_3 := blk_frozen BK229.out 3
                                  go_wp2
                                  refine bodyPost_ret (results_cell_row rfl _ _ gb229 37 #[.int .i64 x231000_47, .int .u64 (IntKind.u64.wrap (t238)), .int .u64 x231002_82, .int .i64 x231003_6] (0, 0) _ rfl (by (with_reducible repeat (first | refine blk_drewN ?_ _ | refine blk_drew ?_ | refine blk_alloc ?_ _)); refine blk_put (cs := #[.int .i64 x231000_47, .int .u64 (IntKind.u64.wrap (t238)), .int .u64 x231002_82, .int .i64 0]) ?_ 3 _ rfl; (with_reducible repeat (first | refine blk_drewN ?_ _ | refine blk_drew ?_ | refine blk_alloc ?_ _)); refine blk_put (cs := #[.int .i64 x231000_47, .int .u64 (IntKind.u64.wrap (t238)), .int .u64 0, .int .i64 0]) ?_ 2 _ rfl; (with_reducible repeat (first | refine blk_drewN ?_ _ | refine blk_drew ?_ | refine blk_alloc ?_ _)); refine blk_put (cs := #[.int .i64 x231000_47, .int .u64 0, .int .u64 0, .int .i64 0]) ?_ 1 _ rfl; (with_reducible repeat (first | refine blk_drewN ?_ _ | refine blk_drew ?_ | refine blk_alloc ?_ _)); refine blk_put (cs := #[.int .i64 0, .int .u64 0, .int .u64 0, .int .i64 0]) ?_ 0 _ rfl; (with_reducible repeat (first | refine blk_drewN ?_ _ | refine blk_drew ?_ | refine blk_alloc ?_ _)); exact BK229.out) Try.underlying37 rfl (by kernel_rfl)) rfl ?_
                                  exact ⟨by first | rfl | (simp [errW_none, errW_some] <;> rfl) | (simp [*, errW_none, errW_some] <;> rfl), by repeat (first | (with_reducible first | exact HI0.out | apply IsS73.alloc | apply IsS73.drewN | apply IsS73.drew | apply IsS73.set_0 | refine IsS73.far ?_ NB0_228.out _ | refine IsS73.far ?_ NB0_229.out _ | refine IsS73.far ?_ NB0_230.out _) | exact HI0.out), by repeat (first | (with_reducible first | exact HB.out | apply below_alloc | apply pw_below_drewN | apply below_drew1 | refine below_set ?_ (IsS73.ge HI0.out) | refine below_set ?_ GE228.out | refine below_set ?_ GE229.out | refine below_set ?_ GE230.out) | exact HB.out), by repeat (first | (with_reducible first | exact HK.out | apply KeepBut.set_ | apply keep_drewN | apply keep_drew | apply keep_alloc | refine keep_far ?_ GW228.out _ | refine keep_far ?_ GW229.out _ | refine keep_far ?_ GW230.out _) | exact HK.out)⟩
                          · replace c104 := Bool.eq_false_iff.mpr c104
                            subst c104
                            have H1 : (some (x231000_47, (IntKind.u64.wrap (t238)), x231002_82, 0, x1000_82)) = some (r1, r2, r3, r4, r5) := by rw [if_neg (show ¬ (false = true) by decide)] at H; exact H
                            clear H
                            have H := H1
                            clear H1
                            simp only [Option.some.injEq, Prod.mk.injEq] at H
                            obtain ⟨rfl, rfl, rfl, rfl, rfl⟩ := H
                            have hnb141 := NB230_228.out
                            have hnc141 := NB228_230.out
                            have hnb142 := NB230_229.out
                            have hnc142 := NB229_230.out
                            have hnb143 := NB230_0.out
                            have hnc143 := NB0_230.out
                            have hcz144_0 : wc.cell? ⟨gb230, 0, none⟩ = some (.int .i64 x231000_47) := (blk_cell BK230.out 0).trans rfl
                            have hcz144_1 : wc.cell? ⟨gb230, 1, none⟩ = some (.int .u64 (IntKind.u64.wrap (t238))) := (blk_cell BK230.out 1).trans rfl
                            have hcz144_2 : wc.cell? ⟨gb230, 2, none⟩ = some (.int .u64 x231002_82) := (blk_cell BK230.out 2).trans rfl
                            have hcz144_3 : wc.cell? ⟨gb230, 3, none⟩ = some (.int .i64 0) := (blk_cell BK230.out 3).trans rfl
                            have hfz144_0 := blk_frozen BK230.out 0
                            have hfz144_1 := blk_frozen BK230.out 1
                            have hfz144_2 := blk_frozen BK230.out 2
                            have hfz144_3 := blk_frozen BK230.out 3
                            have hnb145 := NB229_228.out
                            have hnc145 := NB228_229.out
                            have hnb146 := NB229_0.out
                            have hnc146 := NB0_229.out
                            have hcz147_0 : wc.cell? ⟨gb229, 0, none⟩ = some (.int .i64 0) := (blk_cell BK229.out 0).trans rfl
                            have hcz147_1 : wc.cell? ⟨gb229, 1, none⟩ = some (.int .u64 0) := (blk_cell BK229.out 1).trans rfl
                            have hcz147_2 : wc.cell? ⟨gb229, 2, none⟩ = some (.int .u64 0) := (blk_cell BK229.out 2).trans rfl
                            have hcz147_3 : wc.cell? ⟨gb229, 3, none⟩ = some (.int .i64 0) := (blk_cell BK229.out 3).trans rfl
                            have hfz147_0 := blk_frozen BK229.out 0
                            have hfz147_1 := blk_frozen BK229.out 1
                            have hfz147_2 := blk_frozen BK229.out 2
                            have hfz147_3 := blk_frozen BK229.out 3
                            go_wp2
                            refine bodyPost_ret (results_cell_row rfl _ _ gb229 37 #[.int .i64 x231000_47, .int .u64 (IntKind.u64.wrap (t238)), .int .u64 x231002_82, .int .i64 0] (0, 0) _ rfl (by (with_reducible repeat (first | refine blk_drewN ?_ _ | refine blk_drew ?_ | refine blk_alloc ?_ _)); refine blk_put (cs := #[.int .i64 x231000_47, .int .u64 (IntKind.u64.wrap (t238)), .int .u64 x231002_82, .int .i64 0]) ?_ 3 _ rfl; (with_reducible repeat (first | refine blk_drewN ?_ _ | refine blk_drew ?_ | refine blk_alloc ?_ _)); refine blk_put (cs := #[.int .i64 x231000_47, .int .u64 (IntKind.u64.wrap (t238)), .int .u64 0, .int .i64 0]) ?_ 2 _ rfl; (with_reducible repeat (first | refine blk_drewN ?_ _ | refine blk_drew ?_ | refine blk_alloc ?_ _)); refine blk_put (cs := #[.int .i64 x231000_47, .int .u64 0, .int .u64 0, .int .i64 0]) ?_ 1 _ rfl; (with_reducible repeat (first | refine blk_drewN ?_ _ | refine blk_drew ?_ | refine blk_alloc ?_ _)); refine blk_put (cs := #[.int .i64 0, .int .u64 0, .int .u64 0, .int .i64 0]) ?_ 0 _ rfl; (with_reducible repeat (first | refine blk_drewN ?_ _ | refine blk_drew ?_ | refine blk_alloc ?_ _)); exact BK229.out) Try.underlying37 rfl (by kernel_rfl)) rfl ?_
                            exact ⟨by first | rfl | (simp [errW_none, errW_some] <;> rfl) | (simp [*, errW_none, errW_some] <;> rfl), by repeat (first | (with_reducible first | exact HI0.out | apply IsS73.alloc | apply IsS73.drewN | apply IsS73.drew | apply IsS73.set_0 | refine IsS73.far ?_ NB0_228.out _ | refine IsS73.far ?_ NB0_229.out _ | refine IsS73.far ?_ NB0_230.out _) | exact HI0.out), by repeat (first | (with_reducible first | exact HB.out | apply below_alloc | apply pw_below_drewN | apply below_drew1 | refine below_set ?_ (IsS73.ge HI0.out) | refine below_set ?_ GE228.out | refine below_set ?_ GE229.out | refine below_set ?_ GE230.out) | exact HB.out), by repeat (first | (with_reducible first | exact HK.out | apply KeepBut.set_ | apply keep_drewN | apply keep_drew | apply keep_alloc | refine keep_far ?_ GW228.out _ | refine keep_far ?_ GW229.out _ | refine keep_far ?_ GW230.out _) | exact HK.out)⟩

end Go.Proofs.Ytcphmelmieedfaa.PMintExact
