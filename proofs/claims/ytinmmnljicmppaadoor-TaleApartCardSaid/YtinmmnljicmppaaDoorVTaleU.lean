import Derived.Test.YtinmmnljicmppaaDoorVTaleT
import Derived.Test.YtinmmnljicmppaaDoorVWords
/-
Texts that the document tells: what is read of them.
-/
namespace Go.Proofs.YtinmmnljicmppaaDoor.PTaleApart
open Go Go.RowKit Go.Proofs.YtinmmnljicmppaaDoorW.PrintWords Go.Proofs.YtinmmnljicmppaaDoorW.PrintLast Go.Proofs.YtinmmnljicmppaaDoorW.PrintMore Go.Proofs.YtinmmnljicmppaaDoor.Str Go.Proofs.YtinmmnljicmppaaDoor.U
set_option linter.unusedVariables false
set_option linter.unusedSimpArgs false
theorem dec_small {u : Nat} (h : u < 10) : Lib.decDigits u = [UInt8.ofNat (48 + u)] := by rw [Lib.decDigits, dif_pos h]
theorem itB_small {u : Nat} (h : u < 10) : itB (u : Int) = ⟨#[UInt8.ofNat (48 + u)]⟩ := by rw [itB_nat, dec_small h]
theorem nuB_small {u : Nat} (h : u < 10) : nuB (u : Int) = ⟨#[UInt8.ofNat (48 + u)]⟩ := by
 unfold nuB
 rw [Int.toNat_natCast, dec_small h]
def awL1 : ByteArray := ⟨#[108, 105, 115, 116, 32, 52, 32, 57]⟩
def awL2 : ByteArray := ⟨#[48, 32, 105, 110, 115, 101, 114, 116, 32, 53]⟩
def awL3 : ByteArray := ⟨#[112, 105, 99, 107, 115, 32, 48, 42, 51]⟩
def awL4 : ByteArray := ⟨#[48, 32, 105, 110, 115, 101, 114, 116, 32, 32, 53]⟩
def awT1 : ByteArray := ⟨#[108, 105, 115, 116, 32, 52, 32, 57, 10, 48, 32, 105, 110, 115, 101, 114, 116, 32, 53, 10, 112, 105, 99, 107, 115, 32, 48, 42, 51, 10]⟩
def awT2 : ByteArray := ⟨#[108, 105, 115, 116, 32, 52, 32, 57, 10, 48, 32, 105, 110, 115, 101, 114, 116, 32, 32, 53, 10]⟩
def awT3 : ByteArray := ⟨#[108, 105, 115, 116, 32, 52, 32, 57, 10]⟩
theorem aw_conf : joinB (confL (1 : Int).toNat 4 0 1 9) = awL1 := by
 unfold confL
 rw [if_neg (by decide), if_neg (by decide), show (4 : Int) = ((4 : Nat) : Int) from rfl, show (9 : Int) = ((9 : Nat) : Int) from rfl, itB_small (by decide), itB_small (by decide)]
 rfl
theorem aw_op : joinB (opL (1 : Int).toNat 0 5 0 0) = awL2 := by
 unfold opL
 rw [if_neg (by decide), if_neg (by decide), if_neg (by decide), show (5 : Int) = ((5 : Nat) : Int) from rfl, show (0 : Int) = ((0 : Nat) : Int) from rfl, itB_small (by decide), nuB_small (by decide)]
 rfl
theorem aw_runs : runs [0, 0, 0] = [(0, 3)] := by
 rw [runs_cons]
 show (0, 1 + ([0, 0] : List Int).length) :: runs [] = _
 rw [runs_nil]
 rfl
theorem aw_picks : (⟨(picksLine [0, 0, 0]).toArray⟩ : ByteArray) = awL3 := by
 unfold picksLine
 rw [aw_runs]
 show (⟨(Lib.join [picksB, Lib.decDigits 0 ++ (if 1 < 3 then 42 :: Lib.decDigits 3 else [])] [32]).toArray⟩ : ByteArray) = _
 rw [dec_small (by decide), dec_small (by decide), if_pos (by decide)]
 rfl
def awS1 : RS := ⟨1, 4, 0, 1, 9, [], [], false, false⟩
def awS2 : RS := ⟨1, 4, 0, 1, 9, [[⟨1, 5, 0, 0⟩]], [], false, false⟩
def awS3 : RS := ⟨1, 4, 0, 1, 9, [[⟨1, 5, 0, 0⟩]], [0, 0, 0], false, true⟩
theorem aw_l1 : RS.none.lineS awL1 = (awS1, true) := by
 unfold RS.lineS
 rw [if_pos (show RS.none.a = 0 from rfl), ← aw_conf, readConf_conf (by decide)]
 rfl
theorem cut_0 (b : List UInt8) : cutW (⟨(48 :: 32 :: b).toArray⟩ : ByteArray) = ⟨#[48]⟩ := by
 unfold cutW
 show (⟨(Lib.cut ([48] ++ 32 :: b) [32]).1.toArray⟩ : ByteArray) = _
 rw [cut_hit 32 [48] b (by decide)]
theorem aw_l2 : awS1.lineS awL2 = (awS2, true) := by
 have hc : cutW awL2 = ⟨#[48]⟩ := cut_0 _
 unfold RS.lineS
 rw [if_neg (by decide), if_neg (by decide), hc, if_neg (by decide), if_neg (by decide)]
 unfold RS.opS
 have hr : readOpV awS1.a awS1.b awS1.c awS1.d awS1.e awL2 = (0, 1, 5, 0, 0, 0) := by
  rw [← aw_op]
  exact readOp_op (a := 1) (b := 4) (c := 0) (d := 1) (e := 9) (by decide) (by decide) (by decide) (by unfold U64; decide) (by unfold U64; decide)
 rw [hr]
 rfl
theorem aw_l3 : awS2.lineS awL3 = (awS3, true) := by
 have hc : cutW awL3 = ⟨#[112, 105, 99, 107, 115]⟩ := by
  unfold cutW
  show (⟨(Lib.cut ([112, 105, 99, 107, 115] ++ 32 :: [48, 42, 51]) [32]).1.toArray⟩ : ByteArray) = _
  rw [cut_hit 32 _ _ (by decide)]
 unfold RS.lineS
 rw [if_neg (by decide), if_neg (by decide), hc, if_neg (by decide), if_pos rfl, ← aw_picks, readPicks_picks (by decide) (by decide)]
 rfl
theorem aw_l4 : (awS1.lineS awL4).2 = false := by
 have hc : cutW awL4 = ⟨#[48]⟩ := cut_0 _
 have hn : nameN (wd awL4 1) = 1 := by decide
 have hr : (readOpV awS1.a awS1.b awS1.c awS1.d awS1.e awL4).2.2.2.2.2 = 4 := by
  unfold readOpV
  rw [if_neg]
  rintro ⟨-, -, h0, h1, hj⟩
  rw [hn] at hj
  have hl : rLev awS1.a awL4 = 0 := by unfold rLev; rw [if_neg (by intro h; exact absurd h.2 (by decide))]
  rw [hl] at hj
  have h2 := congrArg (fun z => (splitS 32 z).length) hj
  rw [split_joinB _ (by unfold opL; simp) (opL_clean 1 h0 (Int.le_refl 0))] at h2
  unfold opL at h2
  rw [if_neg (by decide), if_neg (by decide), if_neg (by decide)] at h2
  exact absurd h2 (by decide)
 unfold RS.lineS
 rw [if_neg (by decide), if_neg (by decide), hc, if_neg (by decide), if_neg (by decide)]
 unfold RS.opS
 simp only
 rw [hr, if_pos (.inl (by decide))]
theorem aw_split1 : splitS 10 awT1 = [awL1, awL2, awL3, ⟨#[]⟩] := rfl
theorem aw_split2 : splitS 10 awT2 = [awL1, awL4, ⟨#[]⟩] := rfl
theorem aw_split3 : splitS 10 awT3 = [awL1, ⟨#[]⟩] := rfl
theorem aw_read1 : readV awT1 = (awS3, 0, 0) := by
 have hl : RS.none.lines [awL1, awL2, awL3] 0 = (awS3, 0) := by
  simp only [RS.lines, aw_l1, aw_l2, aw_l3, if_true]
 unfold readV
 rw [if_neg (by decide), aw_split1]
 have ht : [awL1, awL2, awL3, (⟨#[]⟩ : ByteArray)].take ([awL1, awL2, awL3, (⟨#[]⟩ : ByteArray)].length - 1) = [awL1, awL2, awL3] := rfl
 rw [ht, hl, if_neg (by decide), if_neg (by decide), if_neg (by decide)]
theorem aw_read2 : readV awT2 = (RS.none, 2, 4) := by
 have hl : (RS.none.lines [awL1, awL4] 0).2 = 2 := by
  simp only [RS.lines, aw_l1, aw_l4, if_true]
  rfl
 unfold readV
 rw [if_neg (by decide), aw_split2]
 show (if (RS.none.lines [awL1, awL4] 0).2 ≠ 0 then (RS.none, ((RS.none.lines [awL1, awL4] 0).2 : Int), (4 : Int)) else _) = _
 rw [hl, if_pos (by decide)]
 rfl
theorem aw_read3 : readV awT3 = (RS.none, 2, 4) := by
 have hl : RS.none.lines [awL1] 0 = (awS1, 0) := by
  simp only [RS.lines, aw_l1, if_true]
 unfold readV
 rw [if_neg (by decide), aw_split3]
 have ht : [awL1, (⟨#[]⟩ : ByteArray)].take ([awL1, (⟨#[]⟩ : ByteArray)].length - 1) = [awL1] := rfl
 rw [ht, hl, if_neg (by decide), if_neg (by decide), if_pos (by decide)]
 rfl
theorem aw_text : textV 1 4 0 1 9 [[⟨1, 5, 0, 0⟩]] [0, 0, 0] = (awT1, 0) := by
 unfold textV
 rw [if_pos (by decide)]
 have h : textL 1 4 0 1 9 [[⟨1, 5, 0, 0⟩]] [0, 0, 0] = [awL1, awL2, awL3] := by
  unfold textL
  rw [aw_conf, aw_picks]
  show [awL1] ++ ([opLine (0 : Int) ⟨1, 5, 0, 0⟩] ++ opsLines [] 1) ++ [] ++ [awL3] = _
  rw [show opLine (0 : Int) ⟨1, 5, 0, 0⟩ = awL2 from aw_op]
  rfl
 rw [h]
 have h2 : joinN [awL1, awL2, awL3] ++ (⟨#[10]⟩ : ByteArray) = awT1 := by
  rw [ba_append]
  rfl
 rw [h2]
theorem aw_tell1 : tale_Tell.f 10 0 true 5 = some ⟨#[121, 101, 115, 32, 53]⟩ := by
 unfold tale_Tell.f
 rw [if_neg (by decide), if_neg (by decide), if_pos rfl, if_pos rfl]
 simp only [tale_Tell.j0]
 rw [if_neg (by decide), num_eq (by unfold U64; decide), bsome, join_f (by simp) (by
  intro x hx
  simp only [List.mem_cons, List.not_mem_nil, or_false] at hx
  rcases hx with rfl | rfl
  ·decide
  ·have := nuB_len 5 (by unfold U64; decide); omega), bsome, show (5 : Int) = ((5 : Nat) : Int) from rfl, nuB_small (by decide)]
 rfl
theorem aw_tell2 : tale_Tell.f 10 6 false 0 = some ⟨#[102, 117, 108, 108]⟩ := rfl
end Go.Proofs.YtinmmnljicmppaaDoor.PTaleApart
