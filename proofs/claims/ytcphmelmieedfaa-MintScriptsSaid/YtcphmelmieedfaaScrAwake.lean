/-
The closed function awake of layer 34 answers true; what lay in memory stays.
-/
import Derived.Test.YtcphmelmieedfaaPMintScriptsx0
import Derived.Test.YtcphmelmieedfaaPMintScriptsx1
import Derived.Test.YtcphmelmieedfaaPMintScriptsx2
import Derived.Test.YtcphmelmieedfaaPMintScriptsx3
import Derived.Test.YtcphmelmieedfaaPMintScriptsx4
import Derived.Test.YtcphmelmieedfaaPMintScriptsx5
import Derived.Test.YtcphmelmieedfaaPMintScriptsx6
import Derived.Test.YtcphmelmieedfaaPMintScriptsx7
import Derived.Test.YtcphmelmieedfaaPMintScriptsx8
import Derived.Test.YtcphmelmieedfaaPMintScriptsx9
namespace Go.Proofs.Ytcphmelmieedfaa.PMintScripts
open Go.RowKit Go.Proofs.YtcphmelmieedfaaW.PrintWords Go.Proofs.YtcphmelmieedfaaW.PrintLast Go.Proofs.YtcphmelmieedfaaW.PrintMore
attribute [local go_sem] max2_int min2_int max_two min_two max_three min_three max_four min_four
set_option linter.unusedVariables false
set_option linter.unusedSimpArgs false
theorem keepI {w0 w w' : World} {g g2 : Nat} {s : Int} (h : IsS71 w0 w g2 s) (hk : KeepBut w w' g none) (hne : g2 ≠ g) : IsS71 w0 w' g2 s := ⟨hk.blk h.1 hne (by simp), h.2⟩
theorem rebase {w0 w1 w : World} {g : Nat} {s : Int} (h : IsS71 w1 w g s) (hle : w0.heap.size ≤ w1.heap.size) : IsS71 w0 w g s := ⟨h.1, Nat.le_trans hle h.2⟩
theorem script_val : ∃ r6 r7 r9, mint_Mint_Script.f 60 7 1 4 0 1 9 2 3 4 5 = some (1, 4, 0, 1, 9, r6, r7, 0, r9) ∧ r6.length = 2 ∧ (rd_L3 r6 1).length = 3 ∧ r7.length = 5 := by
  have h : ((mint_Mint_Script.f 60 7 1 4 0 1 9 2 3 4 5).map fun (a,b,c,d,e,r6,r7,x,_) => [a,b,c,d,e,(r6.length : Int),((rd_L3 r6 1).length : Int),(r7.length : Int),x]) = some [1,4,0,1,9,2,3,5,0] := by decide +kernel
  cases hf : mint_Mint_Script.f 60 7 1 4 0 1 9 2 3 4 5 with
  | none => rw [hf] at h; cases h
  | some q =>
    obtain ⟨a, b, c, d, e, r6, r7, x, y⟩ := q
    rw [hf] at h
    simp only [Option.map_some, Option.some.injEq, List.cons.injEq, and_true] at h
    obtain ⟨rfl, rfl, rfl, rfl, rfl, h1, h2, h3, rfl⟩ := h
    exact ⟨r6, r7, y, rfl, by omega, by omega, by omega⟩
set_option maxHeartbeats 8000000 in
set_option maxRecDepth 100000 in
theorem awakeT (w : World) : Calls Try.prog 10 #[] w fun e w' => e = .returned (.bool true) ∧ Below w.heap.size w w' := by
  have hu49 := Try.underlying49
  obtain ⟨r6, r7, r9, hS, l6, l61, l7⟩ := script_val
  have HS := Aside0.mk hS
  have L6 := Aside0.mk l6
  have L61 := Aside0.mk l61
  have L7 := Aside0.mk l7
  clear hS l6 l61 l7
  go_enter Try.func10, Try.ntmps10
  go_wp2_with fail
  refine (mint_New.calls 1 1 w w (Below.refl _ _) (by decide +kernel)).mono ?_
  rintro e w1 ⟨g1, rfl, I1, B1, _⟩
  have J1 := Aside0.mk I1
  have C1 := Aside0.mk B1
  clear I1 B1
  go_wp2_with fail
  refine (mint_New.calls 7 7 w1 w1 (Below.refl _ _) (by decide +kernel)).mono ?_
  rintro e w2 ⟨g2, rfl, I2, B2, _⟩
  have J2 := Aside0.mk I2
  have C2 := Aside0.mk (below_step C1.out B2)
  have N12 := Aside0.mk (show g1 ≠ g2 by have := J1.out.lt; have := I2.ge; omega)
  have K1 := Aside0.mk (J1.out.below B2)
  clear I2 B2 J1
  go_wp2_with fail
  refine (revenantlaw34_list.calls 1 4 0 1 9 w2 (by decide +kernel)).mono ?_
  rintro e w3 ⟨rfl, B3⟩
  have C3 := Aside0.mk (below_step C2.out B3)
  have J3 := Aside0.mk (rebase (J2.out.below B3) C1.out.size)
  have K3 := Aside0.mk (K1.out.below B3)
  clear B3 J2 K1
  go_wp2_with fail
  refine (mint_Mint_Script.calls 60 g2 7 1 4 0 1 9 2 3 4 5 1 4 0 1 9 r6 r7 0 r9 w w3 J3.out C3.out HS.out).mono ?_
  rintro e w4 ⟨v5, v6, rfl, R5, R6, I2, B4, KB⟩
  obtain ⟨ga, c5, e5, hga, hlt, cs5, hb5⟩ := Kd.S_form R5 (by have := L6.out; omega)
  obtain ⟨A6, c6, e6⟩ := Kd.R_slice R6
  rw [L6.out] at e5
  rw [L7.out] at e6
  subst e5
  subst e6
  obtain ⟨hn5, hc5, hC5⟩ := Kd.S_reads' R5
  obtain ⟨ad, A0, c0, e0, hx, _, _⟩ := at_L3 hC5 1 (by omega) (by have := L6.out; omega)
  cases e0
  rw [L61.out] at hx
  have hcs : cs5[1]? = some (.slice A0 3 c0) := (blk_cell hb5 1).symm.trans hx
  have X5 := Aside0.mk hcs
  have K4 := Aside0.mk (keepI K3.out KB N12.out)
  have C4 := Aside0.mk B4
  have H5 := Aside0.mk hb5
  have NA := Aside0.mk (show ga ≠ g1 by have := K3.out.lt; omega)
  clear R5 R6 I2 B4 KB hga hlt hb5 hc5 hn5 hC5 hx hcs K3 J3
  go_wp2_with fail
  refine (mint_Mint_Script.calls 20 g1 1 0 0 0 0 0 1 1 1 1 0 0 0 0 0 [] [] 8 1 w _ (K4.out.alloc _) (below_alloc C4.out _) (by kernel_rfl)).mono ?_
  rintro e w5 ⟨v5, v6, rfl, R5, R6, I5, B5, KB⟩
  obtain ⟨A5, c5, rfl⟩ := Kd.S_slice R5
  obtain ⟨A7, c7, rfl⟩ := Kd.R_slice R6
  have NS := Aside0.mk (show w4.heap.size ≠ g1 by have := K4.out.lt; omega)
  have HBs := Aside0.mk (KB.blk (blk_new w4 _) NS.out (by simp))
  have H6 := Aside0.mk (KB.blk (blk_alloc H5.out _) NA.out (by simp))
  have K5 := Aside0.mk I5
  have C5 := Aside0.mk B5
  clear R5 R6 I5 B5 KB K4 H5 C4
  go_wp2_with fail
  refine (mint_Mint_Next.calls g1 1 5180492295206395165 33554433 w _ (K5.out.alloc _) (below_alloc C5.out _) (by decide +kernel)).mono ?_
  rintro e w6 ⟨rfl, I6, B6, KB⟩
  have HBt := Aside0.mk (KB.blk (blk_alloc HBs.out _) NS.out (by simp))
  have H7 := Aside0.mk (KB.blk (blk_alloc H6.out _) NA.out (by simp))
  have K6 := Aside0.mk I6
  have C6 := Aside0.mk B6
  clear I6 B6 KB K5 C5 HBs H6
  go_wp2_with fail
  refine (mint_New.calls 2 2 w6 w6 (Below.refl _ _) (by decide +kernel)).mono ?_
  rintro e w7 ⟨g3, rfl, I7, B7, _⟩
  have HBu := Aside0.mk (blk_below HBt.out B7)
  have H8 := Aside0.mk (blk_below H7.out B7)
  have K7 := Aside0.mk (K6.out.below B7)
  have C7 := Aside0.mk (below_step C6.out B7)
  have N3 := Aside0.mk (show g1 ≠ g3 by have := K6.out.lt; have := I7.ge; omega)
  have NT := Aside0.mk (show w4.heap.size ≠ g3 by have := blk_lt HBt.out; have := I7.ge; omega)
  have NU := Aside0.mk (show ga ≠ g3 by have := blk_lt H7.out; have := I7.ge; omega)
  have J7 := Aside0.mk (rebase I7 C6.out.size)
  clear I7 B7 K6 C6 HBt H7
  go_wp2_with fail
  refine (mint_Mint_Below.calls g3 2 1 0 67108866 w w7 J7.out C7.out (by decide +kernel)).mono ?_
  rintro e w8 ⟨rfl, _, B8, KB⟩
  have HBv := Aside0.mk (KB.blk HBu.out NT.out (by simp))
  have H9 := Aside0.mk (KB.blk H8.out NU.out (by simp))
  have K8 := Aside0.mk (keepI K7.out KB N3.out)
  have C8 := Aside0.mk B8
  clear B8 KB K7 C7 HBu H8 J7
  go_wp2_with fail
  refine (mint_Back.calls 20 0 0 w8 (by decide +kernel)).mono ?_
  rintro e w9 ⟨rfl, ⟨nd, rfl⟩⟩
  have hs5 : w8.cell? ⟨w4.heap.size, 5, none⟩ = some (.slice (some ⟨ga, 0, none⟩) 2 _) := (blk_cell HBv.out 5).trans rfl
  have hs6 : w8.cell? ⟨w4.heap.size, 6, none⟩ = some (.slice A6 5 _) := (blk_cell HBv.out 6).trans rfl
  have hs7 : w8.cell? ⟨ga, 1, none⟩ = some (.slice A0 3 c0) := (blk_cell H9.out 1).trans X5.out
  go_wp2_with fail
  refine (mint_Mint_Picks.calls 20 g1 33554433 0 5 1 [] 33554433 w _ (K8.out.drewN nd) (pw_below_drewN C8.out nd) (by kernel_rfl)).mono ?_
  rintro e w10 ⟨v0, rfl, R0, _, B10, _⟩
  obtain ⟨A9, c9, rfl⟩ := Kd.R_slice R0
  have C10 := Aside0.mk B10
  clear R0 B10
  go_wp2_with fail
  go_ret
  exact ⟨rfl, C10.out⟩
end Go.Proofs.Ytcphmelmieedfaa.PMintScripts

