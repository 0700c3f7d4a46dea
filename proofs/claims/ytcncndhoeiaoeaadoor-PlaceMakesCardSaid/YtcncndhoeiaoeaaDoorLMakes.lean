/-
The law PlaceMakes.
-/
import Derived.Test.YtcncndhoeiaoeaaDoorAw
import Derived.Test.YtcncndhoeiaoeaaDoorWords
namespace Go.Proofs.YtcncndhoeiaoeaaDoor.PPlaceExact
open Go Go.RowKit Go.Proofs.YtcncndhoeiaoeaaDoorW.PrintWords Go.Proofs.YtcncndhoeiaoeaaDoorW.PrintLast Go.Proofs.YtcncndhoeiaoeaaDoorW.PrintMore Go.Proofs.YtcncndhoeiaoeaaDoor.U
attribute [local go_sem] max2_int min2_int max_two min_two max_three min_three max_four min_four
set_option linter.unusedVariables false
set_option linter.unusedSimpArgs false
theorem q25 (a b c : Int) : ∀ d W, (Op.equalIn (d + 2) 25 (.agg #[.int .i64 a, .int .i64 b, .int .i64 c]) (.agg #[.int .i64 a, .int .i64 b, .int .i64 c])).run Tryd.prog W = .ok true W := fun d W => by rw [eqA25]; simp
set_option maxHeartbeats 16000000 in
set_option maxRecDepth 100000 in
theorem makes05Ta (slot m : Int) (w : World) (hm : (Lit.int .i64 m).wf = true) (hlt : m < 4611686018427387904) :
    Calls Tryd.prog 4 #[.int .i64 slot, .int .i64 m] w fun e w' => e = .returned (.bool true) ∧ Below w.heap.size w w' := by
  have hu25 := Tryd.underlying25
  have hu39 := Tryd.underlying39
  have g1 := q25 4 0 m
  have g2 := q25 5 slot m
  have g3 := q25 5 slot (7 + m)
  have qw : wrap64 (7 + m) = 7 + m := by
    have := wf_i64.1 hm
    unfold wrap64; omega
  have t0 : decide (m < 4611686018427387904) = true := decide_eq_true hlt
  have HL := Aside0.mk (show place_Link.f slot m = some (5, slot, 7 + m) by unfold place_Link.f place_Of.f; rw [qw]; rfl)
  clear hm hlt
  go_enter Tryd.func4, Tryd.ntmps4
  go_wp2_with fail
  refine (revenantlaw05_awake.calls 20 true _ revenantlaw05_awake.one).mono ?_
  rintro e w1 ⟨rfl, hb⟩
  have B1 := Aside0.mk hb
  clear hb
  go_wp2_with fail
  refine (place_Epoch.calls 1 0 0 _ rfl).mono ?_
  rintro e w2 ⟨rfl, hb⟩
  have B2 := Aside0.mk (below_step B1.out hb)
  clear hb
  go_wp2_with fail
  refine (place_Pool.calls 2 0 0 _ rfl).mono ?_
  rintro e w3 ⟨rfl, hb⟩
  have B3 := Aside0.mk (below_step B2.out hb)
  clear hb
  go_wp2_with fail
  refine (place_Fresh.calls 3 0 0 _ rfl).mono ?_
  rintro e w4 ⟨rfl, hb⟩
  have B4 := Aside0.mk (below_step B3.out hb)
  clear hb
  go_wp2_with fail
  refine (place_Root.calls m 4 0 m _ rfl).mono ?_
  rintro e w5 ⟨rfl, hb⟩
  have B5 := Aside0.mk (below_step B4.out hb)
  clear hb
  go_wp2_with fail
  refine (place_Of.calls slot m 5 slot m _ rfl).mono ?_
  rintro e w6 ⟨rfl, hb⟩
  have B6 := Aside0.mk (below_step B5.out hb)
  clear hb
  go_wp2_with fail
  refine (place_Link.calls slot m 5 slot (7 + m) _ HL.out).mono ?_
  rintro e w7 ⟨rfl, hb⟩
  have B7 := Aside0.mk (below_step B6.out hb)
  clear hb
  go_wp2_with fail
  clear qw g3
  clear g1 g2 t0
  have BA := Aside0.mk (below_alloc B7.out (.cells #[.string ⟨#[98, 105, 114, 116, 104]⟩, .string ⟨#[114, 101, 116, 105, 114, 101]⟩, .string ⟨#[99, 104, 97, 105, 110]⟩, .string ⟨#[107, 101, 121]⟩, .string ⟨#[118, 97, 108]⟩, .string ⟨#[116, 111, 112]⟩, .string ⟨#[115, 116, 97, 116, 101]⟩] 39))
  have KA := Aside0.mk (blk_new w7 (.cells #[.string ⟨#[98, 105, 114, 116, 104]⟩, .string ⟨#[114, 101, 116, 105, 114, 101]⟩, .string ⟨#[99, 104, 97, 105, 110]⟩, .string ⟨#[107, 101, 121]⟩, .string ⟨#[118, 97, 108]⟩, .string ⟨#[116, 111, 112]⟩, .string ⟨#[115, 116, 97, 116, 101]⟩] 39))
  generalize w7.heap.size = gA at *
  generalize w7.alloc (.cells #[.string ⟨#[98, 105, 114, 116, 104]⟩, .string ⟨#[114, 101, 116, 105, 114, 101]⟩, .string ⟨#[99, 104, 97, 105, 110]⟩, .string ⟨#[107, 101, 121]⟩, .string ⟨#[118, 97, 108]⟩, .string ⟨#[116, 111, 112]⟩, .string ⟨#[115, 116, 97, 116, 101]⟩] 39) = wA at *
  go_loopg [6] 7 (fun kq v6 w' => ∃ (i : Int), v6 = .int .i64 i ∧ Aside0 (0 ≤ i ∧ i + kq = 7) ∧ Aside0 (w'.heap[gA]? = some (.cells #[.string ⟨#[98, 105, 114, 116, 104]⟩, .string ⟨#[114, 101, 116, 105, 114, 101]⟩, .string ⟨#[99, 104, 97, 105, 110]⟩, .string ⟨#[107, 101, 121]⟩, .string ⟨#[118, 97, 108]⟩, .string ⟨#[116, 111, 112]⟩, .string ⟨#[115, 116, 97, 116, 101]⟩] 39 (0, 0))) ∧ Aside0 (Below w.heap.size w w'))
  case atStart => exact ⟨0, rfl, ⟨by omega⟩, KA, BA⟩
  case round =>
    clear KA BA
    obtain ⟨i, rfl, HK, KA, B8⟩ := hrel
    have hi : i = 0 ∨ i = 1 ∨ i = 2 ∨ i = 3 ∨ i = 4 ∨ i = 5 ∨ i = 6 ∨ i = 7 := by have := HK.out; omega
    rcases hi with rfl | rfl | rfl | rfl | rfl | rfl | rfl | rfl
    · obtain ⟨ko, rfl⟩ : ∃ m, gk = m + 1 := ⟨gk - 1, by have := HK.out; omega⟩
      have hc : wr.cell? ⟨gA, 0, none⟩ = some (.string ⟨#[98, 105, 114, 116, 104]⟩) := (blk_cell KA.out 0).trans rfl
      have cat : ((⟨#[115, 108, 111, 116, 32, 51, 32]⟩ : ByteArray) ++ (⟨#[98, 105, 114, 116, 104]⟩ : ByteArray)) = (⟨#[115, 108, 111, 116, 32, 51, 32, 98, 105, 114, 116, 104]⟩ : ByteArray) := by decide +kernel
      go_wp2_with fail
      clear hc
      refine (place_Of.calls 3 0 5 3 0 _ rfl).mono ?_
      rintro e w9 ⟨rfl, hb⟩
      have B9 := Aside0.mk (below_step B8.out hb)
      have KA9 := Aside0.mk (blk_below KA.out hb)
      clear hb
      go_wp2_with fail
      refine (place_Name.calls 20 5 3 0 ⟨#[115, 108, 111, 116, 32, 51, 32, 98, 105, 114, 116, 104]⟩ _ (by decide +kernel)).mono ?_
      rintro e w10 ⟨rfl, hb⟩
      have B10 := Aside0.mk (below_step B9.out hb)
      have KA10 := Aside0.mk (blk_below KA9.out hb)
      clear hb
      go_wp2_with fail
      go_roundg ko
      case rel => exact ⟨1, by first | rfl | simp, ⟨by have := HK.out; omega⟩, KA10, B10⟩
      case measure => exact Nat.lt_succ_self _
    · obtain ⟨ko, rfl⟩ : ∃ m, gk = m + 1 := ⟨gk - 1, by have := HK.out; omega⟩
      have hc : wr.cell? ⟨gA, 1, none⟩ = some (.string ⟨#[114, 101, 116, 105, 114, 101]⟩) := (blk_cell KA.out 1).trans rfl
      have cat : ((⟨#[115, 108, 111, 116, 32, 51, 32]⟩ : ByteArray) ++ (⟨#[114, 101, 116, 105, 114, 101]⟩ : ByteArray)) = (⟨#[115, 108, 111, 116, 32, 51, 32, 114, 101, 116, 105, 114, 101]⟩ : ByteArray) := by decide +kernel
      go_wp2_with fail
      clear hc
      refine (place_Of.calls 3 1 5 3 1 _ rfl).mono ?_
      rintro e w9 ⟨rfl, hb⟩
      have B9 := Aside0.mk (below_step B8.out hb)
      have KA9 := Aside0.mk (blk_below KA.out hb)
      clear hb
      go_wp2_with fail
      refine (place_Name.calls 20 5 3 1 ⟨#[115, 108, 111, 116, 32, 51, 32, 114, 101, 116, 105, 114, 101]⟩ _ (by decide +kernel)).mono ?_
      rintro e w10 ⟨rfl, hb⟩
      have B10 := Aside0.mk (below_step B9.out hb)
      have KA10 := Aside0.mk (blk_below KA9.out hb)
      clear hb
      go_wp2_with fail
      go_roundg ko
      case rel => exact ⟨2, by first | rfl | simp, ⟨by have := HK.out; omega⟩, KA10, B10⟩
      case measure => exact Nat.lt_succ_self _
    · obtain ⟨ko, rfl⟩ : ∃ m, gk = m + 1 := ⟨gk - 1, by have := HK.out; omega⟩
      have hc : wr.cell? ⟨gA, 2, none⟩ = some (.string ⟨#[99, 104, 97, 105, 110]⟩) := (blk_cell KA.out 2).trans rfl
      have cat : ((⟨#[115, 108, 111, 116, 32, 51, 32]⟩ : ByteArray) ++ (⟨#[99, 104, 97, 105, 110]⟩ : ByteArray)) = (⟨#[115, 108, 111, 116, 32, 51, 32, 99, 104, 97, 105, 110]⟩ : ByteArray) := by decide +kernel
      go_wp2_with fail
      clear hc
      refine (place_Of.calls 3 2 5 3 2 _ rfl).mono ?_
      rintro e w9 ⟨rfl, hb⟩
      have B9 := Aside0.mk (below_step B8.out hb)
      have KA9 := Aside0.mk (blk_below KA.out hb)
      clear hb
      go_wp2_with fail
      refine (place_Name.calls 20 5 3 2 ⟨#[115, 108, 111, 116, 32, 51, 32, 99, 104, 97, 105, 110]⟩ _ (by decide +kernel)).mono ?_
      rintro e w10 ⟨rfl, hb⟩
      have B10 := Aside0.mk (below_step B9.out hb)
      have KA10 := Aside0.mk (blk_below KA9.out hb)
      clear hb
      go_wp2_with fail
      go_roundg ko
      case rel => exact ⟨3, by first | rfl | simp, ⟨by have := HK.out; omega⟩, KA10, B10⟩
      case measure => exact Nat.lt_succ_self _
    · obtain ⟨ko, rfl⟩ : ∃ m, gk = m + 1 := ⟨gk - 1, by have := HK.out; omega⟩
      have hc : wr.cell? ⟨gA, 3, none⟩ = some (.string ⟨#[107, 101, 121]⟩) := (blk_cell KA.out 3).trans rfl
      have cat : ((⟨#[115, 108, 111, 116, 32, 51, 32]⟩ : ByteArray) ++ (⟨#[107, 101, 121]⟩ : ByteArray)) = (⟨#[115, 108, 111, 116, 32, 51, 32, 107, 101, 121]⟩ : ByteArray) := by decide +kernel
      go_wp2_with fail
      clear hc
      refine (place_Of.calls 3 3 5 3 3 _ rfl).mono ?_
      rintro e w9 ⟨rfl, hb⟩
      have B9 := Aside0.mk (below_step B8.out hb)
      have KA9 := Aside0.mk (blk_below KA.out hb)
      clear hb
      go_wp2_with fail
      refine (place_Name.calls 20 5 3 3 ⟨#[115, 108, 111, 116, 32, 51, 32, 107, 101, 121]⟩ _ (by decide +kernel)).mono ?_
      rintro e w10 ⟨rfl, hb⟩
      have B10 := Aside0.mk (below_step B9.out hb)
      have KA10 := Aside0.mk (blk_below KA9.out hb)
      clear hb
      go_wp2_with fail
      go_roundg ko
      case rel => exact ⟨4, by first | rfl | simp, ⟨by have := HK.out; omega⟩, KA10, B10⟩
      case measure => exact Nat.lt_succ_self _
    · obtain ⟨ko, rfl⟩ : ∃ m, gk = m + 1 := ⟨gk - 1, by have := HK.out; omega⟩
      have hc : wr.cell? ⟨gA, 4, none⟩ = some (.string ⟨#[118, 97, 108]⟩) := (blk_cell KA.out 4).trans rfl
      have cat : ((⟨#[115, 108, 111, 116, 32, 51, 32]⟩ : ByteArray) ++ (⟨#[118, 97, 108]⟩ : ByteArray)) = (⟨#[115, 108, 111, 116, 32, 51, 32, 118, 97, 108]⟩ : ByteArray) := by decide +kernel
      go_wp2_with fail
      clear hc
      refine (place_Of.calls 3 4 5 3 4 _ rfl).mono ?_
      rintro e w9 ⟨rfl, hb⟩
      have B9 := Aside0.mk (below_step B8.out hb)
      have KA9 := Aside0.mk (blk_below KA.out hb)
      clear hb
      go_wp2_with fail
      refine (place_Name.calls 20 5 3 4 ⟨#[115, 108, 111, 116, 32, 51, 32, 118, 97, 108]⟩ _ (by decide +kernel)).mono ?_
      rintro e w10 ⟨rfl, hb⟩
      have B10 := Aside0.mk (below_step B9.out hb)
      have KA10 := Aside0.mk (blk_below KA9.out hb)
      clear hb
      go_wp2_with fail
      go_roundg ko
      case rel => exact ⟨5, by first | rfl | simp, ⟨by have := HK.out; omega⟩, KA10, B10⟩
      case measure => exact Nat.lt_succ_self _
    · obtain ⟨ko, rfl⟩ : ∃ m, gk = m + 1 := ⟨gk - 1, by have := HK.out; omega⟩
      have hc : wr.cell? ⟨gA, 5, none⟩ = some (.string ⟨#[116, 111, 112]⟩) := (blk_cell KA.out 5).trans rfl
      have cat : ((⟨#[115, 108, 111, 116, 32, 51, 32]⟩ : ByteArray) ++ (⟨#[116, 111, 112]⟩ : ByteArray)) = (⟨#[115, 108, 111, 116, 32, 51, 32, 116, 111, 112]⟩ : ByteArray) := by decide +kernel
      go_wp2_with fail
      clear hc
      refine (place_Of.calls 3 5 5 3 5 _ rfl).mono ?_
      rintro e w9 ⟨rfl, hb⟩
      have B9 := Aside0.mk (below_step B8.out hb)
      have KA9 := Aside0.mk (blk_below KA.out hb)
      clear hb
      go_wp2_with fail
      refine (place_Name.calls 20 5 3 5 ⟨#[115, 108, 111, 116, 32, 51, 32, 116, 111, 112]⟩ _ (by decide +kernel)).mono ?_
      rintro e w10 ⟨rfl, hb⟩
      have B10 := Aside0.mk (below_step B9.out hb)
      have KA10 := Aside0.mk (blk_below KA9.out hb)
      clear hb
      go_wp2_with fail
      go_roundg ko
      case rel => exact ⟨6, by first | rfl | simp, ⟨by have := HK.out; omega⟩, KA10, B10⟩
      case measure => exact Nat.lt_succ_self _
    · obtain ⟨ko, rfl⟩ : ∃ m, gk = m + 1 := ⟨gk - 1, by have := HK.out; omega⟩
      have hc : wr.cell? ⟨gA, 6, none⟩ = some (.string ⟨#[115, 116, 97, 116, 101]⟩) := (blk_cell KA.out 6).trans rfl
      have cat : ((⟨#[115, 108, 111, 116, 32, 51, 32]⟩ : ByteArray) ++ (⟨#[115, 116, 97, 116, 101]⟩ : ByteArray)) = (⟨#[115, 108, 111, 116, 32, 51, 32, 115, 116, 97, 116, 101]⟩ : ByteArray) := by decide +kernel
      go_wp2_with fail
      clear hc
      refine (place_Of.calls 3 6 5 3 6 _ rfl).mono ?_
      rintro e w9 ⟨rfl, hb⟩
      have B9 := Aside0.mk (below_step B8.out hb)
      have KA9 := Aside0.mk (blk_below KA.out hb)
      clear hb
      go_wp2_with fail
      refine (place_Name.calls 20 5 3 6 ⟨#[115, 108, 111, 116, 32, 51, 32, 115, 116, 97, 116, 101]⟩ _ (by decide +kernel)).mono ?_
      rintro e w10 ⟨rfl, hb⟩
      have B10 := Aside0.mk (below_step B9.out hb)
      have KA10 := Aside0.mk (blk_below KA9.out hb)
      clear hb
      go_wp2_with fail
      go_roundg ko
      case rel => exact ⟨7, by first | rfl | simp, ⟨by have := HK.out; omega⟩, KA10, B10⟩
      case measure => exact Nat.lt_succ_self _
    · go_wp2_with fail
      refine (place_Pool.calls 2 0 0 _ rfl).mono ?_
      rintro e w9 ⟨rfl, hb⟩
      have B9 := Aside0.mk (below_step B8.out hb)
      clear hb
      go_wp2_with fail
      refine (place_Name.calls 20 2 0 0 ⟨#[112, 111, 111, 108]⟩ _ (by decide +kernel)).mono ?_
      rintro e w10 ⟨rfl, hb⟩
      have B10 := Aside0.mk (below_step B9.out hb)
      clear hb
      go_wp2_with fail
      refine (place_Fresh.calls 3 0 0 _ rfl).mono ?_
      rintro e w11 ⟨rfl, hb⟩
      have B11 := Aside0.mk (below_step B10.out hb)
      clear hb
      go_wp2_with fail
      refine (place_Name.calls 20 3 0 0 ⟨#[102, 114, 101, 115, 104]⟩ _ (by decide +kernel)).mono ?_
      rintro e w12 ⟨rfl, hb⟩
      have B12 := Aside0.mk (below_step B11.out hb)
      clear hb
      go_wp2_with fail
      refine (place_Root.calls 12 4 0 12 _ rfl).mono ?_
      rintro e w13 ⟨rfl, hb⟩
      have B13 := Aside0.mk (below_step B12.out hb)
      clear hb
      go_wp2_with fail
      refine (place_Name.calls 20 4 0 12 ⟨#[114, 111, 111, 116, 32, 49, 50]⟩ _ (by decide +kernel)).mono ?_
      rintro e w14 ⟨rfl, hb⟩
      have B14 := Aside0.mk (below_step B13.out hb)
      clear hb
      go_wp2_with fail
      refine (place_Link.calls 10 0 5 10 7 _ (by decide +kernel)).mono ?_
      rintro e w15 ⟨rfl, hb⟩
      have B15 := Aside0.mk (below_step B14.out hb)
      clear hb
      go_wp2_with fail
      refine (place_Name.calls 20 5 10 7 ⟨#[115, 108, 111, 116, 32, 49, 48, 32, 110, 101, 120, 116, 32, 48]⟩ _ (by decide +kernel)).mono ?_
      rintro e w16 ⟨rfl, hb⟩
      have B16 := Aside0.mk (below_step B15.out hb)
      clear hb
      go_wp2_with fail
      refine (place_Of.calls 0 1 5 0 1 _ rfl).mono ?_
      rintro e w17 ⟨rfl, hb⟩
      have B17 := Aside0.mk (below_step B16.out hb)
      clear hb
      go_wp2_with fail
      refine (place_Name.calls 20 5 0 1 ⟨#[110, 111, 110, 101]⟩ _ (by decide +kernel)).mono ?_
      rintro e w18 ⟨rfl, hb⟩
      have B18 := Aside0.mk (below_step B17.out hb)
      clear hb
      go_wp2_with fail
      refine (place_Root.calls (-1) 4 0 (-1) _ rfl).mono ?_
      rintro e w19 ⟨rfl, hb⟩
      have B19 := Aside0.mk (below_step B18.out hb)
      clear hb
      go_wp2_with fail
      refine (place_Name.calls 20 4 0 (-1) ⟨#[110, 111, 110, 101]⟩ _ (by decide +kernel)).mono ?_
      rintro e w20 ⟨rfl, hb⟩
      have B20 := Aside0.mk (below_step B19.out hb)
      clear hb
      go_wp2_with fail
      refine (place_Name.calls 20 1 1 0 ⟨#[110, 111, 110, 101]⟩ _ (by decide +kernel)).mono ?_
      rintro e w21 ⟨rfl, hb⟩
      have B21 := Aside0.mk (below_step B20.out hb)
      clear hb
      go_wp2_with fail
      refine (place_Of.calls 1 (-1) 5 1 (-1) _ rfl).mono ?_
      rintro e w22 ⟨rfl, hb⟩
      have B22 := Aside0.mk (below_step B21.out hb)
      clear hb
      go_wp2_with fail
      refine (place_Name.calls 20 5 1 (-1) ⟨#[110, 111, 110, 101]⟩ _ (by decide +kernel)).mono ?_
      rintro e w23 ⟨rfl, hb⟩
      have B23 := Aside0.mk (below_step B22.out hb)
      clear hb
      go_wp2_with fail
      go_ret
      exact ⟨rfl, B23.out⟩
set_option maxHeartbeats 16000000 in
set_option maxRecDepth 100000 in
theorem makes05Tb (slot m : Int) (w : World) (hm : (Lit.int .i64 m).wf = true) (hlt : ¬ m < 4611686018427387904) :
    Calls Tryd.prog 4 #[.int .i64 slot, .int .i64 m] w fun e w' => e = .returned (.bool true) ∧ Below w.heap.size w w' := by
  have hu25 := Tryd.underlying25
  have hu39 := Tryd.underlying39
  have g1 := q25 4 0 m
  have g2 := q25 5 slot m
  have t0 : decide (m < 4611686018427387904) = false := decide_eq_false hlt
  clear hm hlt
  go_enter Tryd.func4, Tryd.ntmps4
  go_wp2_with fail
  refine (revenantlaw05_awake.calls 20 true _ revenantlaw05_awake.one).mono ?_
  rintro e w1 ⟨rfl, hb⟩
  have B1 := Aside0.mk hb
  clear hb
  go_wp2_with fail
  refine (place_Epoch.calls 1 0 0 _ rfl).mono ?_
  rintro e w2 ⟨rfl, hb⟩
  have B2 := Aside0.mk (below_step B1.out hb)
  clear hb
  go_wp2_with fail
  refine (place_Pool.calls 2 0 0 _ rfl).mono ?_
  rintro e w3 ⟨rfl, hb⟩
  have B3 := Aside0.mk (below_step B2.out hb)
  clear hb
  go_wp2_with fail
  refine (place_Fresh.calls 3 0 0 _ rfl).mono ?_
  rintro e w4 ⟨rfl, hb⟩
  have B4 := Aside0.mk (below_step B3.out hb)
  clear hb
  go_wp2_with fail
  refine (place_Root.calls m 4 0 m _ rfl).mono ?_
  rintro e w5 ⟨rfl, hb⟩
  have B5 := Aside0.mk (below_step B4.out hb)
  clear hb
  go_wp2_with fail
  refine (place_Of.calls slot m 5 slot m _ rfl).mono ?_
  rintro e w6 ⟨rfl, hb⟩
  have B6 := Aside0.mk (below_step B5.out hb)
  clear hb
  go_wp2_with fail
  clear g1 g2 t0
  have BA := Aside0.mk (below_alloc B6.out (.cells #[.string ⟨#[98, 105, 114, 116, 104]⟩, .string ⟨#[114, 101, 116, 105, 114, 101]⟩, .string ⟨#[99, 104, 97, 105, 110]⟩, .string ⟨#[107, 101, 121]⟩, .string ⟨#[118, 97, 108]⟩, .string ⟨#[116, 111, 112]⟩, .string ⟨#[115, 116, 97, 116, 101]⟩] 39))
  have KA := Aside0.mk (blk_new w6 (.cells #[.string ⟨#[98, 105, 114, 116, 104]⟩, .string ⟨#[114, 101, 116, 105, 114, 101]⟩, .string ⟨#[99, 104, 97, 105, 110]⟩, .string ⟨#[107, 101, 121]⟩, .string ⟨#[118, 97, 108]⟩, .string ⟨#[116, 111, 112]⟩, .string ⟨#[115, 116, 97, 116, 101]⟩] 39))
  generalize w6.heap.size = gA at *
  generalize w6.alloc (.cells #[.string ⟨#[98, 105, 114, 116, 104]⟩, .string ⟨#[114, 101, 116, 105, 114, 101]⟩, .string ⟨#[99, 104, 97, 105, 110]⟩, .string ⟨#[107, 101, 121]⟩, .string ⟨#[118, 97, 108]⟩, .string ⟨#[116, 111, 112]⟩, .string ⟨#[115, 116, 97, 116, 101]⟩] 39) = wA at *
  go_loopg [6] 7 (fun kq v6 w' => ∃ (i : Int), v6 = .int .i64 i ∧ Aside0 (0 ≤ i ∧ i + kq = 7) ∧ Aside0 (w'.heap[gA]? = some (.cells #[.string ⟨#[98, 105, 114, 116, 104]⟩, .string ⟨#[114, 101, 116, 105, 114, 101]⟩, .string ⟨#[99, 104, 97, 105, 110]⟩, .string ⟨#[107, 101, 121]⟩, .string ⟨#[118, 97, 108]⟩, .string ⟨#[116, 111, 112]⟩, .string ⟨#[115, 116, 97, 116, 101]⟩] 39 (0, 0))) ∧ Aside0 (Below w.heap.size w w'))
  case atStart => exact ⟨0, rfl, ⟨by omega⟩, KA, BA⟩
  case round =>
    clear KA BA
    obtain ⟨i, rfl, HK, KA, B7⟩ := hrel
    have hi : i = 0 ∨ i = 1 ∨ i = 2 ∨ i = 3 ∨ i = 4 ∨ i = 5 ∨ i = 6 ∨ i = 7 := by have := HK.out; omega
    rcases hi with rfl | rfl | rfl | rfl | rfl | rfl | rfl | rfl
    · obtain ⟨ko, rfl⟩ : ∃ m, gk = m + 1 := ⟨gk - 1, by have := HK.out; omega⟩
      have hc : wr.cell? ⟨gA, 0, none⟩ = some (.string ⟨#[98, 105, 114, 116, 104]⟩) := (blk_cell KA.out 0).trans rfl
      have cat : ((⟨#[115, 108, 111, 116, 32, 51, 32]⟩ : ByteArray) ++ (⟨#[98, 105, 114, 116, 104]⟩ : ByteArray)) = (⟨#[115, 108, 111, 116, 32, 51, 32, 98, 105, 114, 116, 104]⟩ : ByteArray) := by decide +kernel
      go_wp2_with fail
      clear hc
      refine (place_Of.calls 3 0 5 3 0 _ rfl).mono ?_
      rintro e w8 ⟨rfl, hb⟩
      have B8 := Aside0.mk (below_step B7.out hb)
      have KA8 := Aside0.mk (blk_below KA.out hb)
      clear hb
      go_wp2_with fail
      refine (place_Name.calls 20 5 3 0 ⟨#[115, 108, 111, 116, 32, 51, 32, 98, 105, 114, 116, 104]⟩ _ (by decide +kernel)).mono ?_
      rintro e w9 ⟨rfl, hb⟩
      have B9 := Aside0.mk (below_step B8.out hb)
      have KA9 := Aside0.mk (blk_below KA8.out hb)
      clear hb
      go_wp2_with fail
      go_roundg ko
      case rel => exact ⟨1, by first | rfl | simp, ⟨by have := HK.out; omega⟩, KA9, B9⟩
      case measure => exact Nat.lt_succ_self _
    · obtain ⟨ko, rfl⟩ : ∃ m, gk = m + 1 := ⟨gk - 1, by have := HK.out; omega⟩
      have hc : wr.cell? ⟨gA, 1, none⟩ = some (.string ⟨#[114, 101, 116, 105, 114, 101]⟩) := (blk_cell KA.out 1).trans rfl
      have cat : ((⟨#[115, 108, 111, 116, 32, 51, 32]⟩ : ByteArray) ++ (⟨#[114, 101, 116, 105, 114, 101]⟩ : ByteArray)) = (⟨#[115, 108, 111, 116, 32, 51, 32, 114, 101, 116, 105, 114, 101]⟩ : ByteArray) := by decide +kernel
      go_wp2_with fail
      clear hc
      refine (place_Of.calls 3 1 5 3 1 _ rfl).mono ?_
      rintro e w8 ⟨rfl, hb⟩
      have B8 := Aside0.mk (below_step B7.out hb)
      have KA8 := Aside0.mk (blk_below KA.out hb)
      clear hb
      go_wp2_with fail
      refine (place_Name.calls 20 5 3 1 ⟨#[115, 108, 111, 116, 32, 51, 32, 114, 101, 116, 105, 114, 101]⟩ _ (by decide +kernel)).mono ?_
      rintro e w9 ⟨rfl, hb⟩
      have B9 := Aside0.mk (below_step B8.out hb)
      have KA9 := Aside0.mk (blk_below KA8.out hb)
      clear hb
      go_wp2_with fail
      go_roundg ko
      case rel => exact ⟨2, by first | rfl | simp, ⟨by have := HK.out; omega⟩, KA9, B9⟩
      case measure => exact Nat.lt_succ_self _
    · obtain ⟨ko, rfl⟩ : ∃ m, gk = m + 1 := ⟨gk - 1, by have := HK.out; omega⟩
      have hc : wr.cell? ⟨gA, 2, none⟩ = some (.string ⟨#[99, 104, 97, 105, 110]⟩) := (blk_cell KA.out 2).trans rfl
      have cat : ((⟨#[115, 108, 111, 116, 32, 51, 32]⟩ : ByteArray) ++ (⟨#[99, 104, 97, 105, 110]⟩ : ByteArray)) = (⟨#[115, 108, 111, 116, 32, 51, 32, 99, 104, 97, 105, 110]⟩ : ByteArray) := by decide +kernel
      go_wp2_with fail
      clear hc
      refine (place_Of.calls 3 2 5 3 2 _ rfl).mono ?_
      rintro e w8 ⟨rfl, hb⟩
      have B8 := Aside0.mk (below_step B7.out hb)
      have KA8 := Aside0.mk (blk_below KA.out hb)
      clear hb
      go_wp2_with fail
      refine (place_Name.calls 20 5 3 2 ⟨#[115, 108, 111, 116, 32, 51, 32, 99, 104, 97, 105, 110]⟩ _ (by decide +kernel)).mono ?_
      rintro e w9 ⟨rfl, hb⟩
      have B9 := Aside0.mk (below_step B8.out hb)
      have KA9 := Aside0.mk (blk_below KA8.out hb)
      clear hb
      go_wp2_with fail
      go_roundg ko
      case rel => exact ⟨3, by first | rfl | simp, ⟨by have := HK.out; omega⟩, KA9, B9⟩
      case measure => exact Nat.lt_succ_self _
    · obtain ⟨ko, rfl⟩ : ∃ m, gk = m + 1 := ⟨gk - 1, by have := HK.out; omega⟩
      have hc : wr.cell? ⟨gA, 3, none⟩ = some (.string ⟨#[107, 101, 121]⟩) := (blk_cell KA.out 3).trans rfl
      have cat : ((⟨#[115, 108, 111, 116, 32, 51, 32]⟩ : ByteArray) ++ (⟨#[107, 101, 121]⟩ : ByteArray)) = (⟨#[115, 108, 111, 116, 32, 51, 32, 107, 101, 121]⟩ : ByteArray) := by decide +kernel
      go_wp2_with fail
      clear hc
      refine (place_Of.calls 3 3 5 3 3 _ rfl).mono ?_
      rintro e w8 ⟨rfl, hb⟩
      have B8 := Aside0.mk (below_step B7.out hb)
      have KA8 := Aside0.mk (blk_below KA.out hb)
      clear hb
      go_wp2_with fail
      refine (place_Name.calls 20 5 3 3 ⟨#[115, 108, 111, 116, 32, 51, 32, 107, 101, 121]⟩ _ (by decide +kernel)).mono ?_
      rintro e w9 ⟨rfl, hb⟩
      have B9 := Aside0.mk (below_step B8.out hb)
      have KA9 := Aside0.mk (blk_below KA8.out hb)
      clear hb
      go_wp2_with fail
      go_roundg ko
      case rel => exact ⟨4, by first | rfl | simp, ⟨by have := HK.out; omega⟩, KA9, B9⟩
      case measure => exact Nat.lt_succ_self _
    · obtain ⟨ko, rfl⟩ : ∃ m, gk = m + 1 := ⟨gk - 1, by have := HK.out; omega⟩
      have hc : wr.cell? ⟨gA, 4, none⟩ = some (.string ⟨#[118, 97, 108]⟩) := (blk_cell KA.out 4).trans rfl
      have cat : ((⟨#[115, 108, 111, 116, 32, 51, 32]⟩ : ByteArray) ++ (⟨#[118, 97, 108]⟩ : ByteArray)) = (⟨#[115, 108, 111, 116, 32, 51, 32, 118, 97, 108]⟩ : ByteArray) := by decide +kernel
      go_wp2_with fail
      clear hc
      refine (place_Of.calls 3 4 5 3 4 _ rfl).mono ?_
      rintro e w8 ⟨rfl, hb⟩
      have B8 := Aside0.mk (below_step B7.out hb)
      have KA8 := Aside0.mk (blk_below KA.out hb)
      clear hb
      go_wp2_with fail
      refine (place_Name.calls 20 5 3 4 ⟨#[115, 108, 111, 116, 32, 51, 32, 118, 97, 108]⟩ _ (by decide +kernel)).mono ?_
      rintro e w9 ⟨rfl, hb⟩
      have B9 := Aside0.mk (below_step B8.out hb)
      have KA9 := Aside0.mk (blk_below KA8.out hb)
      clear hb
      go_wp2_with fail
      go_roundg ko
      case rel => exact ⟨5, by first | rfl | simp, ⟨by have := HK.out; omega⟩, KA9, B9⟩
      case measure => exact Nat.lt_succ_self _
    · obtain ⟨ko, rfl⟩ : ∃ m, gk = m + 1 := ⟨gk - 1, by have := HK.out; omega⟩
      have hc : wr.cell? ⟨gA, 5, none⟩ = some (.string ⟨#[116, 111, 112]⟩) := (blk_cell KA.out 5).trans rfl
      have cat : ((⟨#[115, 108, 111, 116, 32, 51, 32]⟩ : ByteArray) ++ (⟨#[116, 111, 112]⟩ : ByteArray)) = (⟨#[115, 108, 111, 116, 32, 51, 32, 116, 111, 112]⟩ : ByteArray) := by decide +kernel
      go_wp2_with fail
      clear hc
      refine (place_Of.calls 3 5 5 3 5 _ rfl).mono ?_
      rintro e w8 ⟨rfl, hb⟩
      have B8 := Aside0.mk (below_step B7.out hb)
      have KA8 := Aside0.mk (blk_below KA.out hb)
      clear hb
      go_wp2_with fail
      refine (place_Name.calls 20 5 3 5 ⟨#[115, 108, 111, 116, 32, 51, 32, 116, 111, 112]⟩ _ (by decide +kernel)).mono ?_
      rintro e w9 ⟨rfl, hb⟩
      have B9 := Aside0.mk (below_step B8.out hb)
      have KA9 := Aside0.mk (blk_below KA8.out hb)
      clear hb
      go_wp2_with fail
      go_roundg ko
      case rel => exact ⟨6, by first | rfl | simp, ⟨by have := HK.out; omega⟩, KA9, B9⟩
      case measure => exact Nat.lt_succ_self _
    · obtain ⟨ko, rfl⟩ : ∃ m, gk = m + 1 := ⟨gk - 1, by have := HK.out; omega⟩
      have hc : wr.cell? ⟨gA, 6, none⟩ = some (.string ⟨#[115, 116, 97, 116, 101]⟩) := (blk_cell KA.out 6).trans rfl
      have cat : ((⟨#[115, 108, 111, 116, 32, 51, 32]⟩ : ByteArray) ++ (⟨#[115, 116, 97, 116, 101]⟩ : ByteArray)) = (⟨#[115, 108, 111, 116, 32, 51, 32, 115, 116, 97, 116, 101]⟩ : ByteArray) := by decide +kernel
      go_wp2_with fail
      clear hc
      refine (place_Of.calls 3 6 5 3 6 _ rfl).mono ?_
      rintro e w8 ⟨rfl, hb⟩
      have B8 := Aside0.mk (below_step B7.out hb)
      have KA8 := Aside0.mk (blk_below KA.out hb)
      clear hb
      go_wp2_with fail
      refine (place_Name.calls 20 5 3 6 ⟨#[115, 108, 111, 116, 32, 51, 32, 115, 116, 97, 116, 101]⟩ _ (by decide +kernel)).mono ?_
      rintro e w9 ⟨rfl, hb⟩
      have B9 := Aside0.mk (below_step B8.out hb)
      have KA9 := Aside0.mk (blk_below KA8.out hb)
      clear hb
      go_wp2_with fail
      go_roundg ko
      case rel => exact ⟨7, by first | rfl | simp, ⟨by have := HK.out; omega⟩, KA9, B9⟩
      case measure => exact Nat.lt_succ_self _
    · go_wp2_with fail
      refine (place_Pool.calls 2 0 0 _ rfl).mono ?_
      rintro e w8 ⟨rfl, hb⟩
      have B8 := Aside0.mk (below_step B7.out hb)
      clear hb
      go_wp2_with fail
      refine (place_Name.calls 20 2 0 0 ⟨#[112, 111, 111, 108]⟩ _ (by decide +kernel)).mono ?_
      rintro e w9 ⟨rfl, hb⟩
      have B9 := Aside0.mk (below_step B8.out hb)
      clear hb
      go_wp2_with fail
      refine (place_Fresh.calls 3 0 0 _ rfl).mono ?_
      rintro e w10 ⟨rfl, hb⟩
      have B10 := Aside0.mk (below_step B9.out hb)
      clear hb
      go_wp2_with fail
      refine (place_Name.calls 20 3 0 0 ⟨#[102, 114, 101, 115, 104]⟩ _ (by decide +kernel)).mono ?_
      rintro e w11 ⟨rfl, hb⟩
      have B11 := Aside0.mk (below_step B10.out hb)
      clear hb
      go_wp2_with fail
      refine (place_Root.calls 12 4 0 12 _ rfl).mono ?_
      rintro e w12 ⟨rfl, hb⟩
      have B12 := Aside0.mk (below_step B11.out hb)
      clear hb
      go_wp2_with fail
      refine (place_Name.calls 20 4 0 12 ⟨#[114, 111, 111, 116, 32, 49, 50]⟩ _ (by decide +kernel)).mono ?_
      rintro e w13 ⟨rfl, hb⟩
      have B13 := Aside0.mk (below_step B12.out hb)
      clear hb
      go_wp2_with fail
      refine (place_Link.calls 10 0 5 10 7 _ (by decide +kernel)).mono ?_
      rintro e w14 ⟨rfl, hb⟩
      have B14 := Aside0.mk (below_step B13.out hb)
      clear hb
      go_wp2_with fail
      refine (place_Name.calls 20 5 10 7 ⟨#[115, 108, 111, 116, 32, 49, 48, 32, 110, 101, 120, 116, 32, 48]⟩ _ (by decide +kernel)).mono ?_
      rintro e w15 ⟨rfl, hb⟩
      have B15 := Aside0.mk (below_step B14.out hb)
      clear hb
      go_wp2_with fail
      refine (place_Of.calls 0 1 5 0 1 _ rfl).mono ?_
      rintro e w16 ⟨rfl, hb⟩
      have B16 := Aside0.mk (below_step B15.out hb)
      clear hb
      go_wp2_with fail
      refine (place_Name.calls 20 5 0 1 ⟨#[110, 111, 110, 101]⟩ _ (by decide +kernel)).mono ?_
      rintro e w17 ⟨rfl, hb⟩
      have B17 := Aside0.mk (below_step B16.out hb)
      clear hb
      go_wp2_with fail
      refine (place_Root.calls (-1) 4 0 (-1) _ rfl).mono ?_
      rintro e w18 ⟨rfl, hb⟩
      have B18 := Aside0.mk (below_step B17.out hb)
      clear hb
      go_wp2_with fail
      refine (place_Name.calls 20 4 0 (-1) ⟨#[110, 111, 110, 101]⟩ _ (by decide +kernel)).mono ?_
      rintro e w19 ⟨rfl, hb⟩
      have B19 := Aside0.mk (below_step B18.out hb)
      clear hb
      go_wp2_with fail
      refine (place_Name.calls 20 1 1 0 ⟨#[110, 111, 110, 101]⟩ _ (by decide +kernel)).mono ?_
      rintro e w20 ⟨rfl, hb⟩
      have B20 := Aside0.mk (below_step B19.out hb)
      clear hb
      go_wp2_with fail
      refine (place_Of.calls 1 (-1) 5 1 (-1) _ rfl).mono ?_
      rintro e w21 ⟨rfl, hb⟩
      have B21 := Aside0.mk (below_step B20.out hb)
      clear hb
      go_wp2_with fail
      refine (place_Name.calls 20 5 1 (-1) ⟨#[110, 111, 110, 101]⟩ _ (by decide +kernel)).mono ?_
      rintro e w22 ⟨rfl, hb⟩
      have B22 := Aside0.mk (below_step B21.out hb)
      clear hb
      go_wp2_with fail
      go_ret
      exact ⟨rfl, B22.out⟩
def PlaceMakesF (_ m : Int) : Option Bool := if (Lit.int .i64 m).wf = true then some true else none
theorem PlaceMakes.calls (slot m : Int) (r : Bool) (w : World) (h : PlaceMakesF slot m = some r) :
    Calls Tryd.prog 4 #[.int .i64 slot, .int .i64 m] w fun e w' => e = .returned (.bool r) ∧ Below w.heap.size w w' := by
  unfold PlaceMakesF at h
  by_cases hw : (Lit.int .i64 m).wf = true
  · rw [if_pos hw] at h
    obtain rfl := Option.some.inj h
    by_cases hlt : m < 4611686018427387904
    · exact makes05Ta slot m w hw hlt
    · exact makes05Tb slot m w hw hlt
  · rw [if_neg hw] at h
    cases h
theorem PlaceMakesT {A : Prop} (slot m : Int) (_ : A) (g : (Lit.int .i64 m).wf = true) : PlaceMakesF slot m = some true := if_pos g
end Go.Proofs.YtcncndhoeiaoeaaDoor.PPlaceExact

