-- PRINTED BY print.sh 35421559b90ae4d0a3588c463048766b98c2df88dd9212a6774a882060cdf62d: not written by this session
import Derived.Test.YtcncndhoeiaoeaaDoorProg
import Derived.Below
import Derived.Deep.Draws
import Derived.Deep.AppendLies
import Derived.Maps.AppendAt
import Derived.OwnWalk
import Derived.Laws.BytesArg
import Derived.Laws.MakeOwn
import Derived.Laws.OwnMore
import Derived.Deep.OwnRows
import Derived.Tactics
import Derived.Lib.ConvBytes
import Derived.Laws.Slices
import Derived.WalkKit
import Derived.KernelRfl
import Derived.RowKit3
import Derived.Deep.LoopGhost
import Derived.Deep.QuietTactic
import Derived.BigQuiet
import Derived.WideLaws
import Derived.Deep.DeepCutAuto
import Derived.Deep.CutBlock
import Derived.Deep.RegionHeld3
import Derived.Laws.Rows
import Derived.Lib.AppendStr
import Derived.ArgAppend
import Derived.Laws.IdiomCopy
import Derived.OrdersHeld
import Derived.Laws.BitsLemmas
import Derived.RowKit
import Derived.Test.YtcncndhoeiaoeaaDoorWWords
import Derived.Test.YtcncndhoeiaoeaaDoorWLast
import Derived.Test.YtcncndhoeiaoeaaDoorWTab
import Derived.Test.YtcncndhoeiaoeaaDoorWFour
import Derived.Test.YtcncndhoeiaoeaaDoorWQPut
import Derived.Test.YtcncndhoeiaoeaaDoorWApart
import Derived.Test.YtcncndhoeiaoeaaDoorWArr
import Derived.Test.YtcncndhoeiaoeaaDoorWZeros
import Derived.Test.YtcncndhoeiaoeaaDoorWFoot
import Derived.Test.YtcncndhoeiaoeaaDoorWKept
import Derived.Test.YtcncndhoeiaoeaaDoorWShare
import Derived.Test.YtcncndhoeiaoeaaDoorWN
import Derived.Test.YtcncndhoeiaoeaaDoorWFootNe
import Derived.Test.YtcncndhoeiaoeaaDoorWAt
import Derived.Test.YtcncndhoeiaoeaaDoorWEqStruct
import Derived.Test.YtcncndhoeiaoeaaDoorWRepsOne
import Derived.Test.YtcncndhoeiaoeaaDoorWInv
import Derived.Test.YtcncndhoeiaoeaaDoorWInvWords
import Derived.Test.YtcncndhoeiaoeaaDoorWGuard
import Derived.Test.YtcncndhoeiaoeaaDoorWNEv
import Derived.Test.YtcncndhoeiaoeaaDoorWMore
namespace Go.Proofs.YtcncndhoeiaoeaaDoor.PTallyExact
open Go.RowKit Go.Proofs.YtcncndhoeiaoeaaDoorW.PrintWords Go.Proofs.YtcncndhoeiaoeaaDoorW.PrintLast Go.Proofs.YtcncndhoeiaoeaaDoorW.PrintMore
attribute [local go_sem] max2_int min2_int max_two min_two max_three min_three max_four min_four   -- for this text's walks alone
set_option linter.unusedVariables false
set_option linter.unusedSimpArgs false



def errW : Option Int → Value
  | none => .nilIface
  | some c => .iface 0 (.int .i64 c)
theorem errW_none : errW none = .nilIface := rfl
theorem errW_some (c : Int) : errW (some c) = .iface 0 (.int .i64 c) := rfl

theorem info5 : (Tryd.prog.info? 5).map (fun i => (i.zero, i.size, i.bytes)) = some (some (.int .u8 0), 1, 1) := by kernel_rfl
theorem info9 : (Tryd.prog.info? 9).map (fun i => (i.zero, i.size, i.bytes)) = some (some (.string ⟨#[]⟩), 1, 16) := by kernel_rfl
theorem info82 : (Tryd.prog.info? 82).map (fun i => (i.zero, i.size, i.bytes)) = some (some (.agg #[(.int .i64 0), (.bool false), (.int .i64 0), (.int .u64 0), (.int .u64 0), (.int .i64 0), (.int .i64 0), (.bool false), (.bool false), (.int .i64 0), (.bool false), (.int .u64 0)]), 12, 88) := by kernel_rfl
-- the values' own types
/-! #### struct type 73 -/
structure S73 where
  f0 : Int
  f1 : Int
  f2 : Int
  f3 : Int
def z73 : S73 := ⟨(0 : Int), (0 : Int), (0 : Int), (0 : Int)⟩
def k73 : Kd S73 := Kd.iso (Kd.pair (Kd.int .i64) (Kd.pair (Kd.int .u64) (Kd.pair (Kd.int .u64) (Kd.int .i64)))) (fun x : S73 => (x.f0, x.f1, x.f2, x.f3))
theorem k73_open {w : World} {x : S73} {cs : List Value} (h : k73.K w x cs) : cs = [.int .i64 x.f0, .int .u64 x.f1, .int .u64 x.f2, .int .i64 x.f3] := by
  obtain ⟨_, _, rfl, rfl, ⟨_, _, rfl, rfl, ⟨_, _, rfl, rfl, rfl⟩⟩⟩ := h
  exact rfl
theorem k73_openM {w : World} {base : Nat} {ok : Nat → Prop} {x : S73} {cs : List Value} (h : k73.M w base ok x cs) : cs = [.int .i64 x.f0, .int .u64 x.f1, .int .u64 x.f2, .int .i64 x.f3] := by
  obtain ⟨_, _, rfl, rfl, ⟨_, _, rfl, rfl, ⟨_, _, rfl, rfl, rfl⟩⟩⟩ := h
  exact rfl
theorem k73_mk (w : World) (x : S73)  : k73.K w x [.int .i64 x.f0, .int .u64 x.f1, .int .u64 x.f2, .int .i64 x.f3] := ⟨[.int .i64 x.f0], [.int .u64 x.f1, .int .u64 x.f2, .int .i64 x.f3], rfl, rfl, ⟨[.int .u64 x.f1], [.int .u64 x.f2, .int .i64 x.f3], rfl, rfl, ⟨[.int .u64 x.f2], [.int .i64 x.f3], rfl, rfl, rfl⟩⟩⟩
theorem k73_mkM (w : World) (base : Nat) (ok : Nat → Prop) (x : S73)  : k73.M w base ok x [.int .i64 x.f0, .int .u64 x.f1, .int .u64 x.f2, .int .i64 x.f3] := ⟨[.int .i64 x.f0], [.int .u64 x.f1, .int .u64 x.f2, .int .i64 x.f3], rfl, rfl, ⟨[.int .u64 x.f1], [.int .u64 x.f2, .int .i64 x.f3], rfl, rfl, ⟨[.int .u64 x.f2], [.int .i64 x.f3], rfl, rfl, rfl⟩⟩⟩
def rd_T73 (xs : List S73) (i : Int) : S73 := xs.getD i.toNat z73
theorem at_T73 {w : World} {A : Option Addr} {n : Nat} {xs : List S73} (h : Kd.C k73 w A n xs) (i : Int) (h0 : 0 ≤ i) (h1 : i < n) : ∃ ad , A = some ad ∧ w.cell? (ad.add (i.toNat * 4)) = some (.int .i64 (rd_T73 xs i).f0) ∧ w.cell? ⟨(ad.add (i.toNat * 4)).block, (ad.add (i.toNat * 4)).off + 1, none⟩ = some (.int .u64 (rd_T73 xs i).f1) ∧ w.cell? ⟨(ad.add (i.toNat * 4)).block, (ad.add (i.toNat * 4)).off + 2, none⟩ = some (.int .u64 (rd_T73 xs i).f2) ∧ w.cell? ⟨(ad.add (i.toNat * 4)).block, (ad.add (i.toNat * 4)).off + 3, none⟩ = some (.int .i64 (rd_T73 xs i).f3) := by
  obtain ⟨ad, c, e, _, hK, hc0⟩ := Kd.C_get h z73 i h0 h1
  have hc : ∀ j u, c[j]? = some u → w.cell? (ad.add (i.toNat * 4 + j)) = some u := hc0
  obtain rfl := k73_open hK
  exact ⟨ad, e, hc 0 _ rfl, by rw [← add_field _ _ 1 (by omega)]; exact hc 1 _ rfl, by rw [← add_field _ _ 2 (by omega)]; exact hc 2 _ rfl, by rw [← add_field _ _ 3 (by omega)]; exact hc 3 _ rfl⟩

/-! #### struct type 76 -/
structure S76 where
  f0 : Int
  f1 : Bool
  f2 : Int
def z76 : S76 := ⟨(0 : Int), false, (0 : Int)⟩
def k76 : Kd S76 := Kd.iso (Kd.pair (Kd.int .i64) (Kd.pair Kd.bool (Kd.int .u64))) (fun x : S76 => (x.f0, x.f1, x.f2))
theorem k76_open {w : World} {x : S76} {cs : List Value} (h : k76.K w x cs) : cs = [.int .i64 x.f0, .bool x.f1, .int .u64 x.f2] := by
  obtain ⟨_, _, rfl, rfl, ⟨_, _, rfl, rfl, rfl⟩⟩ := h
  exact rfl
theorem k76_openM {w : World} {base : Nat} {ok : Nat → Prop} {x : S76} {cs : List Value} (h : k76.M w base ok x cs) : cs = [.int .i64 x.f0, .bool x.f1, .int .u64 x.f2] := by
  obtain ⟨_, _, rfl, rfl, ⟨_, _, rfl, rfl, rfl⟩⟩ := h
  exact rfl
theorem k76_mk (w : World) (x : S76)  : k76.K w x [.int .i64 x.f0, .bool x.f1, .int .u64 x.f2] := ⟨[.int .i64 x.f0], [.bool x.f1, .int .u64 x.f2], rfl, rfl, ⟨[.bool x.f1], [.int .u64 x.f2], rfl, rfl, rfl⟩⟩
theorem k76_mkM (w : World) (base : Nat) (ok : Nat → Prop) (x : S76)  : k76.M w base ok x [.int .i64 x.f0, .bool x.f1, .int .u64 x.f2] := ⟨[.int .i64 x.f0], [.bool x.f1, .int .u64 x.f2], rfl, rfl, ⟨[.bool x.f1], [.int .u64 x.f2], rfl, rfl, rfl⟩⟩
def rd_T76 (xs : List S76) (i : Int) : S76 := xs.getD i.toNat z76
theorem at_T76 {w : World} {A : Option Addr} {n : Nat} {xs : List S76} (h : Kd.C k76 w A n xs) (i : Int) (h0 : 0 ≤ i) (h1 : i < n) : ∃ ad , A = some ad ∧ w.cell? (ad.add (i.toNat * 3)) = some (.int .i64 (rd_T76 xs i).f0) ∧ w.cell? ⟨(ad.add (i.toNat * 3)).block, (ad.add (i.toNat * 3)).off + 1, none⟩ = some (.bool (rd_T76 xs i).f1) ∧ w.cell? ⟨(ad.add (i.toNat * 3)).block, (ad.add (i.toNat * 3)).off + 2, none⟩ = some (.int .u64 (rd_T76 xs i).f2) := by
  obtain ⟨ad, c, e, _, hK, hc0⟩ := Kd.C_get h z76 i h0 h1
  have hc : ∀ j u, c[j]? = some u → w.cell? (ad.add (i.toNat * 3 + j)) = some u := hc0
  obtain rfl := k76_open hK
  exact ⟨ad, e, hc 0 _ rfl, by rw [← add_field _ _ 1 (by omega)]; exact hc 1 _ rfl, by rw [← add_field _ _ 2 (by omega)]; exact hc 2 _ rfl⟩

/-! #### struct type 78 -/
structure S78 where
  f0 : Int
  f1 : Int
  f2 : Bool
  f3 : S73
  f4 : Int
  f5 : Bool
  f6 : Bool
  f7 : S76
def z78 : S78 := ⟨(0 : Int), (0 : Int), false, z73, (0 : Int), false, false, z76⟩
def k78 : Kd S78 := Kd.iso (Kd.pair (Kd.int .i64) (Kd.pair (Kd.int .i64) (Kd.pair Kd.bool (Kd.pair k73 (Kd.pair (Kd.int .i64) (Kd.pair Kd.bool (Kd.pair Kd.bool k76))))))) (fun x : S78 => (x.f0, x.f1, x.f2, x.f3, x.f4, x.f5, x.f6, x.f7))
theorem k78_open {w : World} {x : S78} {cs : List Value} (h : k78.K w x cs) : cs = [.int .i64 x.f0, .int .i64 x.f1, .bool x.f2, .int .i64 x.f3.f0, .int .u64 x.f3.f1, .int .u64 x.f3.f2, .int .i64 x.f3.f3, .int .i64 x.f4, .bool x.f5, .bool x.f6, .int .i64 x.f7.f0, .bool x.f7.f1, .int .u64 x.f7.f2] := by
  obtain ⟨_, _, rfl, rfl, ⟨_, _, rfl, rfl, ⟨_, _, rfl, rfl, ⟨_, _, rfl, s3, ⟨_, _, rfl, rfl, ⟨_, _, rfl, rfl, ⟨_, _, rfl, rfl, s10⟩⟩⟩⟩⟩⟩⟩ := h
  obtain rfl := k73_open s3
  obtain rfl := k76_open s10
  exact rfl
theorem k78_openM {w : World} {base : Nat} {ok : Nat → Prop} {x : S78} {cs : List Value} (h : k78.M w base ok x cs) : cs = [.int .i64 x.f0, .int .i64 x.f1, .bool x.f2, .int .i64 x.f3.f0, .int .u64 x.f3.f1, .int .u64 x.f3.f2, .int .i64 x.f3.f3, .int .i64 x.f4, .bool x.f5, .bool x.f6, .int .i64 x.f7.f0, .bool x.f7.f1, .int .u64 x.f7.f2] := by
  obtain ⟨_, _, rfl, rfl, ⟨_, _, rfl, rfl, ⟨_, _, rfl, rfl, ⟨_, _, rfl, s3, ⟨_, _, rfl, rfl, ⟨_, _, rfl, rfl, ⟨_, _, rfl, rfl, s10⟩⟩⟩⟩⟩⟩⟩ := h
  obtain rfl := k73_openM s3
  obtain rfl := k76_openM s10
  exact rfl
theorem k78_mk (w : World) (x : S78)  : k78.K w x [.int .i64 x.f0, .int .i64 x.f1, .bool x.f2, .int .i64 x.f3.f0, .int .u64 x.f3.f1, .int .u64 x.f3.f2, .int .i64 x.f3.f3, .int .i64 x.f4, .bool x.f5, .bool x.f6, .int .i64 x.f7.f0, .bool x.f7.f1, .int .u64 x.f7.f2] := ⟨[.int .i64 x.f0], [.int .i64 x.f1, .bool x.f2, .int .i64 x.f3.f0, .int .u64 x.f3.f1, .int .u64 x.f3.f2, .int .i64 x.f3.f3, .int .i64 x.f4, .bool x.f5, .bool x.f6, .int .i64 x.f7.f0, .bool x.f7.f1, .int .u64 x.f7.f2], rfl, rfl, ⟨[.int .i64 x.f1], [.bool x.f2, .int .i64 x.f3.f0, .int .u64 x.f3.f1, .int .u64 x.f3.f2, .int .i64 x.f3.f3, .int .i64 x.f4, .bool x.f5, .bool x.f6, .int .i64 x.f7.f0, .bool x.f7.f1, .int .u64 x.f7.f2], rfl, rfl, ⟨[.bool x.f2], [.int .i64 x.f3.f0, .int .u64 x.f3.f1, .int .u64 x.f3.f2, .int .i64 x.f3.f3, .int .i64 x.f4, .bool x.f5, .bool x.f6, .int .i64 x.f7.f0, .bool x.f7.f1, .int .u64 x.f7.f2], rfl, rfl, ⟨[.int .i64 x.f3.f0, .int .u64 x.f3.f1, .int .u64 x.f3.f2, .int .i64 x.f3.f3], [.int .i64 x.f4, .bool x.f5, .bool x.f6, .int .i64 x.f7.f0, .bool x.f7.f1, .int .u64 x.f7.f2], rfl, (k73_mk w x.f3 ), ⟨[.int .i64 x.f4], [.bool x.f5, .bool x.f6, .int .i64 x.f7.f0, .bool x.f7.f1, .int .u64 x.f7.f2], rfl, rfl, ⟨[.bool x.f5], [.bool x.f6, .int .i64 x.f7.f0, .bool x.f7.f1, .int .u64 x.f7.f2], rfl, rfl, ⟨[.bool x.f6], [.int .i64 x.f7.f0, .bool x.f7.f1, .int .u64 x.f7.f2], rfl, rfl, (k76_mk w x.f7 )⟩⟩⟩⟩⟩⟩⟩
theorem k78_mkM (w : World) (base : Nat) (ok : Nat → Prop) (x : S78)  : k78.M w base ok x [.int .i64 x.f0, .int .i64 x.f1, .bool x.f2, .int .i64 x.f3.f0, .int .u64 x.f3.f1, .int .u64 x.f3.f2, .int .i64 x.f3.f3, .int .i64 x.f4, .bool x.f5, .bool x.f6, .int .i64 x.f7.f0, .bool x.f7.f1, .int .u64 x.f7.f2] := ⟨[.int .i64 x.f0], [.int .i64 x.f1, .bool x.f2, .int .i64 x.f3.f0, .int .u64 x.f3.f1, .int .u64 x.f3.f2, .int .i64 x.f3.f3, .int .i64 x.f4, .bool x.f5, .bool x.f6, .int .i64 x.f7.f0, .bool x.f7.f1, .int .u64 x.f7.f2], rfl, rfl, ⟨[.int .i64 x.f1], [.bool x.f2, .int .i64 x.f3.f0, .int .u64 x.f3.f1, .int .u64 x.f3.f2, .int .i64 x.f3.f3, .int .i64 x.f4, .bool x.f5, .bool x.f6, .int .i64 x.f7.f0, .bool x.f7.f1, .int .u64 x.f7.f2], rfl, rfl, ⟨[.bool x.f2], [.int .i64 x.f3.f0, .int .u64 x.f3.f1, .int .u64 x.f3.f2, .int .i64 x.f3.f3, .int .i64 x.f4, .bool x.f5, .bool x.f6, .int .i64 x.f7.f0, .bool x.f7.f1, .int .u64 x.f7.f2], rfl, rfl, ⟨[.int .i64 x.f3.f0, .int .u64 x.f3.f1, .int .u64 x.f3.f2, .int .i64 x.f3.f3], [.int .i64 x.f4, .bool x.f5, .bool x.f6, .int .i64 x.f7.f0, .bool x.f7.f1, .int .u64 x.f7.f2], rfl, (k73_mkM w base ok x.f3 ), ⟨[.int .i64 x.f4], [.bool x.f5, .bool x.f6, .int .i64 x.f7.f0, .bool x.f7.f1, .int .u64 x.f7.f2], rfl, rfl, ⟨[.bool x.f5], [.bool x.f6, .int .i64 x.f7.f0, .bool x.f7.f1, .int .u64 x.f7.f2], rfl, rfl, ⟨[.bool x.f6], [.int .i64 x.f7.f0, .bool x.f7.f1, .int .u64 x.f7.f2], rfl, rfl, (k76_mkM w base ok x.f7 )⟩⟩⟩⟩⟩⟩⟩
def rd_T78 (xs : List S78) (i : Int) : S78 := xs.getD i.toNat z78
theorem at_T78 {w : World} {A : Option Addr} {n : Nat} {xs : List S78} (h : Kd.C k78 w A n xs) (i : Int) (h0 : 0 ≤ i) (h1 : i < n) : ∃ ad , A = some ad ∧ w.cell? (ad.add (i.toNat * 13)) = some (.int .i64 (rd_T78 xs i).f0) ∧ w.cell? ⟨(ad.add (i.toNat * 13)).block, (ad.add (i.toNat * 13)).off + 1, none⟩ = some (.int .i64 (rd_T78 xs i).f1) ∧ w.cell? ⟨(ad.add (i.toNat * 13)).block, (ad.add (i.toNat * 13)).off + 2, none⟩ = some (.bool (rd_T78 xs i).f2) ∧ w.cell? ⟨(ad.add (i.toNat * 13)).block, (ad.add (i.toNat * 13)).off + 3, none⟩ = some (.int .i64 (rd_T78 xs i).f3.f0) ∧ w.cell? ⟨(ad.add (i.toNat * 13)).block, (ad.add (i.toNat * 13)).off + 4, none⟩ = some (.int .u64 (rd_T78 xs i).f3.f1) ∧ w.cell? ⟨(ad.add (i.toNat * 13)).block, (ad.add (i.toNat * 13)).off + 5, none⟩ = some (.int .u64 (rd_T78 xs i).f3.f2) ∧ w.cell? ⟨(ad.add (i.toNat * 13)).block, (ad.add (i.toNat * 13)).off + 6, none⟩ = some (.int .i64 (rd_T78 xs i).f3.f3) ∧ w.cell? ⟨(ad.add (i.toNat * 13)).block, (ad.add (i.toNat * 13)).off + 7, none⟩ = some (.int .i64 (rd_T78 xs i).f4) ∧ w.cell? ⟨(ad.add (i.toNat * 13)).block, (ad.add (i.toNat * 13)).off + 8, none⟩ = some (.bool (rd_T78 xs i).f5) ∧ w.cell? ⟨(ad.add (i.toNat * 13)).block, (ad.add (i.toNat * 13)).off + 9, none⟩ = some (.bool (rd_T78 xs i).f6) ∧ w.cell? ⟨(ad.add (i.toNat * 13)).block, (ad.add (i.toNat * 13)).off + 10, none⟩ = some (.int .i64 (rd_T78 xs i).f7.f0) ∧ w.cell? ⟨(ad.add (i.toNat * 13)).block, (ad.add (i.toNat * 13)).off + 11, none⟩ = some (.bool (rd_T78 xs i).f7.f1) ∧ w.cell? ⟨(ad.add (i.toNat * 13)).block, (ad.add (i.toNat * 13)).off + 12, none⟩ = some (.int .u64 (rd_T78 xs i).f7.f2) := by
  obtain ⟨ad, c, e, _, hK, hc0⟩ := Kd.C_get h z78 i h0 h1
  have hc : ∀ j u, c[j]? = some u → w.cell? (ad.add (i.toNat * 13 + j)) = some u := hc0
  obtain rfl := k78_open hK
  exact ⟨ad, e, hc 0 _ rfl, by rw [← add_field _ _ 1 (by omega)]; exact hc 1 _ rfl, by rw [← add_field _ _ 2 (by omega)]; exact hc 2 _ rfl, by rw [← add_field _ _ 3 (by omega)]; exact hc 3 _ rfl, by rw [← add_field _ _ 4 (by omega)]; exact hc 4 _ rfl, by rw [← add_field _ _ 5 (by omega)]; exact hc 5 _ rfl, by rw [← add_field _ _ 6 (by omega)]; exact hc 6 _ rfl, by rw [← add_field _ _ 7 (by omega)]; exact hc 7 _ rfl, by rw [← add_field _ _ 8 (by omega)]; exact hc 8 _ rfl, by rw [← add_field _ _ 9 (by omega)]; exact hc 9 _ rfl, by rw [← add_field _ _ 10 (by omega)]; exact hc 10 _ rfl, by rw [← add_field _ _ 11 (by omega)]; exact hc 11 _ rfl, by rw [← add_field _ _ 12 (by omega)]; exact hc 12 _ rfl⟩

/-! #### struct type 82 -/
structure S82 where
  f0 : Int
  f1 : Bool
  f2 : S73
  f3 : Int
  f4 : Bool
  f5 : Bool
  f6 : S76
def z82 : S82 := ⟨(0 : Int), false, z73, (0 : Int), false, false, z76⟩
def k82 : Kd S82 := Kd.iso (Kd.pair (Kd.int .i64) (Kd.pair Kd.bool (Kd.pair k73 (Kd.pair (Kd.int .i64) (Kd.pair Kd.bool (Kd.pair Kd.bool k76)))))) (fun x : S82 => (x.f0, x.f1, x.f2, x.f3, x.f4, x.f5, x.f6))
theorem k82_open {w : World} {x : S82} {cs : List Value} (h : k82.K w x cs) : cs = [.int .i64 x.f0, .bool x.f1, .int .i64 x.f2.f0, .int .u64 x.f2.f1, .int .u64 x.f2.f2, .int .i64 x.f2.f3, .int .i64 x.f3, .bool x.f4, .bool x.f5, .int .i64 x.f6.f0, .bool x.f6.f1, .int .u64 x.f6.f2] := by
  obtain ⟨_, _, rfl, rfl, ⟨_, _, rfl, rfl, ⟨_, _, rfl, s2, ⟨_, _, rfl, rfl, ⟨_, _, rfl, rfl, ⟨_, _, rfl, rfl, s9⟩⟩⟩⟩⟩⟩ := h
  obtain rfl := k73_open s2
  obtain rfl := k76_open s9
  exact rfl
theorem k82_openM {w : World} {base : Nat} {ok : Nat → Prop} {x : S82} {cs : List Value} (h : k82.M w base ok x cs) : cs = [.int .i64 x.f0, .bool x.f1, .int .i64 x.f2.f0, .int .u64 x.f2.f1, .int .u64 x.f2.f2, .int .i64 x.f2.f3, .int .i64 x.f3, .bool x.f4, .bool x.f5, .int .i64 x.f6.f0, .bool x.f6.f1, .int .u64 x.f6.f2] := by
  obtain ⟨_, _, rfl, rfl, ⟨_, _, rfl, rfl, ⟨_, _, rfl, s2, ⟨_, _, rfl, rfl, ⟨_, _, rfl, rfl, ⟨_, _, rfl, rfl, s9⟩⟩⟩⟩⟩⟩ := h
  obtain rfl := k73_openM s2
  obtain rfl := k76_openM s9
  exact rfl
theorem k82_mk (w : World) (x : S82)  : k82.K w x [.int .i64 x.f0, .bool x.f1, .int .i64 x.f2.f0, .int .u64 x.f2.f1, .int .u64 x.f2.f2, .int .i64 x.f2.f3, .int .i64 x.f3, .bool x.f4, .bool x.f5, .int .i64 x.f6.f0, .bool x.f6.f1, .int .u64 x.f6.f2] := ⟨[.int .i64 x.f0], [.bool x.f1, .int .i64 x.f2.f0, .int .u64 x.f2.f1, .int .u64 x.f2.f2, .int .i64 x.f2.f3, .int .i64 x.f3, .bool x.f4, .bool x.f5, .int .i64 x.f6.f0, .bool x.f6.f1, .int .u64 x.f6.f2], rfl, rfl, ⟨[.bool x.f1], [.int .i64 x.f2.f0, .int .u64 x.f2.f1, .int .u64 x.f2.f2, .int .i64 x.f2.f3, .int .i64 x.f3, .bool x.f4, .bool x.f5, .int .i64 x.f6.f0, .bool x.f6.f1, .int .u64 x.f6.f2], rfl, rfl, ⟨[.int .i64 x.f2.f0, .int .u64 x.f2.f1, .int .u64 x.f2.f2, .int .i64 x.f2.f3], [.int .i64 x.f3, .bool x.f4, .bool x.f5, .int .i64 x.f6.f0, .bool x.f6.f1, .int .u64 x.f6.f2], rfl, (k73_mk w x.f2 ), ⟨[.int .i64 x.f3], [.bool x.f4, .bool x.f5, .int .i64 x.f6.f0, .bool x.f6.f1, .int .u64 x.f6.f2], rfl, rfl, ⟨[.bool x.f4], [.bool x.f5, .int .i64 x.f6.f0, .bool x.f6.f1, .int .u64 x.f6.f2], rfl, rfl, ⟨[.bool x.f5], [.int .i64 x.f6.f0, .bool x.f6.f1, .int .u64 x.f6.f2], rfl, rfl, (k76_mk w x.f6 )⟩⟩⟩⟩⟩⟩
theorem k82_mkM (w : World) (base : Nat) (ok : Nat → Prop) (x : S82)  : k82.M w base ok x [.int .i64 x.f0, .bool x.f1, .int .i64 x.f2.f0, .int .u64 x.f2.f1, .int .u64 x.f2.f2, .int .i64 x.f2.f3, .int .i64 x.f3, .bool x.f4, .bool x.f5, .int .i64 x.f6.f0, .bool x.f6.f1, .int .u64 x.f6.f2] := ⟨[.int .i64 x.f0], [.bool x.f1, .int .i64 x.f2.f0, .int .u64 x.f2.f1, .int .u64 x.f2.f2, .int .i64 x.f2.f3, .int .i64 x.f3, .bool x.f4, .bool x.f5, .int .i64 x.f6.f0, .bool x.f6.f1, .int .u64 x.f6.f2], rfl, rfl, ⟨[.bool x.f1], [.int .i64 x.f2.f0, .int .u64 x.f2.f1, .int .u64 x.f2.f2, .int .i64 x.f2.f3, .int .i64 x.f3, .bool x.f4, .bool x.f5, .int .i64 x.f6.f0, .bool x.f6.f1, .int .u64 x.f6.f2], rfl, rfl, ⟨[.int .i64 x.f2.f0, .int .u64 x.f2.f1, .int .u64 x.f2.f2, .int .i64 x.f2.f3], [.int .i64 x.f3, .bool x.f4, .bool x.f5, .int .i64 x.f6.f0, .bool x.f6.f1, .int .u64 x.f6.f2], rfl, (k73_mkM w base ok x.f2 ), ⟨[.int .i64 x.f3], [.bool x.f4, .bool x.f5, .int .i64 x.f6.f0, .bool x.f6.f1, .int .u64 x.f6.f2], rfl, rfl, ⟨[.bool x.f4], [.bool x.f5, .int .i64 x.f6.f0, .bool x.f6.f1, .int .u64 x.f6.f2], rfl, rfl, ⟨[.bool x.f5], [.int .i64 x.f6.f0, .bool x.f6.f1, .int .u64 x.f6.f2], rfl, rfl, (k76_mkM w base ok x.f6 )⟩⟩⟩⟩⟩⟩
def rd_T82 (xs : List S82) (i : Int) : S82 := xs.getD i.toNat z82
theorem at_T82 {w : World} {A : Option Addr} {n : Nat} {xs : List S82} (h : Kd.C k82 w A n xs) (i : Int) (h0 : 0 ≤ i) (h1 : i < n) : ∃ ad , A = some ad ∧ w.cell? (ad.add (i.toNat * 12)) = some (.int .i64 (rd_T82 xs i).f0) ∧ w.cell? ⟨(ad.add (i.toNat * 12)).block, (ad.add (i.toNat * 12)).off + 1, none⟩ = some (.bool (rd_T82 xs i).f1) ∧ w.cell? ⟨(ad.add (i.toNat * 12)).block, (ad.add (i.toNat * 12)).off + 2, none⟩ = some (.int .i64 (rd_T82 xs i).f2.f0) ∧ w.cell? ⟨(ad.add (i.toNat * 12)).block, (ad.add (i.toNat * 12)).off + 3, none⟩ = some (.int .u64 (rd_T82 xs i).f2.f1) ∧ w.cell? ⟨(ad.add (i.toNat * 12)).block, (ad.add (i.toNat * 12)).off + 4, none⟩ = some (.int .u64 (rd_T82 xs i).f2.f2) ∧ w.cell? ⟨(ad.add (i.toNat * 12)).block, (ad.add (i.toNat * 12)).off + 5, none⟩ = some (.int .i64 (rd_T82 xs i).f2.f3) ∧ w.cell? ⟨(ad.add (i.toNat * 12)).block, (ad.add (i.toNat * 12)).off + 6, none⟩ = some (.int .i64 (rd_T82 xs i).f3) ∧ w.cell? ⟨(ad.add (i.toNat * 12)).block, (ad.add (i.toNat * 12)).off + 7, none⟩ = some (.bool (rd_T82 xs i).f4) ∧ w.cell? ⟨(ad.add (i.toNat * 12)).block, (ad.add (i.toNat * 12)).off + 8, none⟩ = some (.bool (rd_T82 xs i).f5) ∧ w.cell? ⟨(ad.add (i.toNat * 12)).block, (ad.add (i.toNat * 12)).off + 9, none⟩ = some (.int .i64 (rd_T82 xs i).f6.f0) ∧ w.cell? ⟨(ad.add (i.toNat * 12)).block, (ad.add (i.toNat * 12)).off + 10, none⟩ = some (.bool (rd_T82 xs i).f6.f1) ∧ w.cell? ⟨(ad.add (i.toNat * 12)).block, (ad.add (i.toNat * 12)).off + 11, none⟩ = some (.int .u64 (rd_T82 xs i).f6.f2) := by
  obtain ⟨ad, c, e, _, hK, hc0⟩ := Kd.C_get h z82 i h0 h1
  have hc : ∀ j u, c[j]? = some u → w.cell? (ad.add (i.toNat * 12 + j)) = some u := hc0
  obtain rfl := k82_open hK
  exact ⟨ad, e, hc 0 _ rfl, by rw [← add_field _ _ 1 (by omega)]; exact hc 1 _ rfl, by rw [← add_field _ _ 2 (by omega)]; exact hc 2 _ rfl, by rw [← add_field _ _ 3 (by omega)]; exact hc 3 _ rfl, by rw [← add_field _ _ 4 (by omega)]; exact hc 4 _ rfl, by rw [← add_field _ _ 5 (by omega)]; exact hc 5 _ rfl, by rw [← add_field _ _ 6 (by omega)]; exact hc 6 _ rfl, by rw [← add_field _ _ 7 (by omega)]; exact hc 7 _ rfl, by rw [← add_field _ _ 8 (by omega)]; exact hc 8 _ rfl, by rw [← add_field _ _ 9 (by omega)]; exact hc 9 _ rfl, by rw [← add_field _ _ 10 (by omega)]; exact hc 10 _ rfl, by rw [← add_field _ _ 11 (by omega)]; exact hc 11 _ rfl⟩

end Go.Proofs.YtcncndhoeiaoeaaDoor.PTallyExact
