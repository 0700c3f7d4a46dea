import Derived.Shelf.Strings.Builder1
import Derived.Shelf.Strings.Builder2
import Derived.Shelf.Strings.OnBuilder
import Derived.Shelf.Strconv.Itoa0
import Derived.Shelf.Strconv.Itoa1
import Derived.Shelf.LaysM
import Derived.Shelf.Strconv.Itoa2
import Derived.Shelf.Strconv.Itoa3
import Derived.Ground.MpProg
import Derived.Shelf.Pu.ParseUintPublic10
import Derived.Shelf.Pu.ErrVarParseUint
import Derived.Shelf.Strings.Search1
import Derived.Shelf.Strings.Search2
import Derived.Shelf.Strings.Search3
import Derived.Shelf.Strings.Cut
import Derived.Shelf.Strings.Count
import Derived.Shelf.Strings.Shaped
import Derived.Shelf.Strings.Split
import Derived.Shelf.Strings.SplitShaped
import Derived.Shelf.Strings.RuneCount
import Derived.Shelf.Strings.Explode
import Derived.Shelf.Bits.Mul64
import Derived.Shelf.Slices.Turned
import Derived.Test.YtinmmnljicmppaaDoorProg
/-
  DERIVED: THE SHELF's CONTRACTS AT THIS DUMP, IN PLAIN WORDS (tools/lay-plain.mjs out of 'YtinmmnljicmppaaDoorLayR.lean', which tools/lay-shelf.mjs wrote): THE SAME DECLARATIONS UNDER THE SAME NAMES: 'import', 'namespace', 'open', 'def', 'theorem' AND NOTHING ELSE: no command of the shelf's: FOR A HAND-IN. Each laying: the table of numbers ('.._ren') and one theorem, a field a fact of the dump's own or the kernel's comparison; each contract: ONE APPLICATION.
-/
namespace Go.Proofs
open Go.Shelf
def Tryd.lays156_ren : Go.Shelf.Ren := ⟨fun | 156 => 32 | 165 => 50 | 166 => 51 | 169 => 52 | 240 => 63 | 241 => 64 | 276 => 80 | 277 => 81 | n => n, fun | 31 => 55 | 9 => 9 | 3 => 3 | 4 => 4 | 0 => 0 | 20 => 20 | 72 => 95 | 76 => 97 | 70 => 93 | 37 => 51 | 75 => 84 | 127 => 105 | 164 => 122 | 5 => 5 | 80 => 99 | n => n, fun | n => n⟩
theorem Tryd.lays156 : Go.Proofs.Lays.n156 Tryd.prog Tryd.lays156_ren := {
 mixed := by kernel_rfl
 f156 := Tryd.func32.trans (congrArg some (by kernel_rfl))
 f165 := Tryd.func50.trans (congrArg some (by kernel_rfl))
 f166 := Tryd.func51.trans (congrArg some (by kernel_rfl))
 f169 := Tryd.func52.trans (congrArg some (by kernel_rfl))
 f240 := Tryd.func63.trans (congrArg some (by kernel_rfl))
 f241 := Tryd.func64.trans (congrArg some (by kernel_rfl))
 f276 := Tryd.func80.trans (congrArg some (by kernel_rfl))
 f277 := Tryd.func81.trans (congrArg some (by kernel_rfl))
 t0 := Tryd.underlying0
 a0 := Tryd.isAgg0
 z0 := Tryd.sizeOf0
 v0 := Tryd.zeroValue0
 t3 := Tryd.underlying3
 a3 := Tryd.isAgg3
 z3 := Tryd.sizeOf3
 v3 := Tryd.zeroValue3
 t4 := Tryd.underlying4
 a4 := Tryd.isAgg4
 z4 := Tryd.sizeOf4
 v4 := Tryd.zeroValue4
 t9 := Tryd.underlying9
 a9 := Tryd.isAgg9
 z9 := Tryd.sizeOf9
 v9 := Tryd.zeroValue9
 t20 := Tryd.underlying20
 a20 := Tryd.isAgg20
 z20 := Tryd.sizeOf20
 v20 := Tryd.zeroValue20
 t31 := Tryd.underlying55
 a31 := Tryd.isAgg55
 z31 := Tryd.sizeOf55
 v31 := Tryd.zeroValue55
 t37 := Tryd.underlying51
 a37 := Tryd.isAgg51
 z37 := Tryd.sizeOf51
 v37 := Tryd.zeroValue51
 t70 := Tryd.underlying93
 a70 := Tryd.isAgg93
 z70 := Tryd.sizeOf93
 v70 := Tryd.zeroValue93
 t72 := Tryd.underlying95
 a72 := Tryd.isAgg95
 z72 := Tryd.sizeOf95
 v72 := Tryd.zeroValue95
 t75 := Tryd.underlying84
 a75 := Tryd.isAgg84
 z75 := Tryd.sizeOf84
 v75 := Tryd.zeroValue84
 t76 := Tryd.underlying97
 a76 := Tryd.isAgg97
 z76 := Tryd.sizeOf97
 v76 := Tryd.zeroValue97
 t127 := Tryd.underlying105
 a127 := Tryd.isAgg105
 z127 := Tryd.sizeOf105
 v127 := Tryd.zeroValue105
 t164 := Tryd.underlying122
 a164 := Tryd.isAgg122
 z164 := Tryd.sizeOf122
 v164 := Tryd.zeroValue122 }
theorem Tryd.Builder_Extra_156 : Builder.Extra Tryd.prog Tryd.lays156_ren := {
 sizeBuilder := by kernel_rfl
 liesBuilder := by kernel_rfl
 t5 := Tryd.underlying5
 a5 := Tryd.isAgg5
 z5 := Tryd.sizeOf5
 v5 := Tryd.zeroValue5
 infoByte := by kernel_rfl
 cellsByte := by kernel_rfl
 sizeByte := by kernel_rfl
 neB5 := by decide }
open Go.RowKit in
theorem Tryd.strings_Join_none (a : Option Addr) (c : Nat) (sep : ByteArray) (w : World) :
  Calls Tryd.prog 32 #[.slice a 0 c, .string sep] w fun e w' => e = .returned (.string ⟨#[]⟩) ∧ w' = w := Any.strings_Join_none Tryd.lays156 Tryd.Builder_Extra_156 a c sep w
open Go.RowKit in
theorem Tryd.strings_Join (bk o c : Nat) (xs : List ByteArray) (sep : ByteArray) (w : World) (hcells : ∀ (j : Nat) x, xs[j]? = some x → w.cell? ⟨bk, o + j, none⟩ = some (.string x)) (hbk : bk < w.heap.size) (hN : xs.length ≤ 140737488355328) (hcap : xs.length ≤ c) (hlen : (Lib.join (xs.map (·.data.toList)) sep.data.toList).length ≤ 140737488355328) :
  Calls Tryd.prog 32 #[.slice (some ⟨bk, o, none⟩) xs.length c, .string sep] w fun e w' => e = .returned (.string ⟨(Lib.join (xs.map (·.data.toList)) sep.data.toList).toArray⟩) ∧ Below w.heap.size w w' := Any.strings_Join Tryd.lays156 Tryd.Builder_Extra_156 bk o c xs sep w hcells hbk hN hcap hlen
def Tryd.lays283_ren : Go.Shelf.Ren := ⟨fun | 283 => 65 | n => n, fun | 3 => 3 | 9 => 9 | 4 => 4 | n => n, fun | n => n⟩
theorem Tryd.lays283 : Go.Proofs.Lays.n283 Tryd.prog Tryd.lays283_ren := {
 mixed := by kernel_rfl
 f283 := Tryd.func65.trans (congrArg some (by kernel_rfl))
 t3 := Tryd.underlying3
 a3 := Tryd.isAgg3
 z3 := Tryd.sizeOf3
 v3 := Tryd.zeroValue3
 t4 := Tryd.underlying4
 a4 := Tryd.isAgg4
 z4 := Tryd.sizeOf4
 v4 := Tryd.zeroValue4
 t9 := Tryd.underlying9
 a9 := Tryd.isAgg9
 z9 := Tryd.sizeOf9
 v9 := Tryd.zeroValue9 }
open Go.Lib in
theorem Tryd.internal_strconv_small (i : Nat) (h : i < 100) (w : World) :
  Calls Tryd.prog 65 #[.int .i64 i] w fun e w' => e = .returned (.string ⟨(Lib.decDigits i).toArray⟩) ∧ w' = w := Any.internal_strconv_small Tryd.lays283 i h w
def Tryd.laysM284_ren : Go.Shelf.Ren := ⟨fun | 284 => 66 | 129 => 83 | 317 => 82 | 318 => 84 | n => n, fun | 53 => 23 | 3 => 3 | 212 => 127 | 0 => 0 | 4 => 4 | 46 => 116 | 5 => 5 | 9 => 9 | n => n, fun | 17 => 0 | n => n⟩
theorem Tryd.laysM284 : Go.Proofs.LaysM.n284 Tryd.prog Tryd.laysM284_ren := {
 mixed := by kernel_rfl
 f129 := Tryd.func83.trans (congrArg some (by kernel_rfl))
 f284 := Tryd.func66.trans (congrArg some (by kernel_rfl))
 f317 := Tryd.func82.trans (congrArg some (by kernel_rfl))
 f318 := Tryd.func84.trans (congrArg some (by kernel_rfl))
 t0 := Tryd.underlying0
 a0 := Tryd.isAgg0
 z0 := Tryd.sizeOf0
 v0 := Tryd.zeroValue0
 t3 := Tryd.underlying3
 a3 := Tryd.isAgg3
 z3 := Tryd.sizeOf3
 v3 := Tryd.zeroValue3
 t4 := Tryd.underlying4
 a4 := Tryd.isAgg4
 z4 := Tryd.sizeOf4
 v4 := Tryd.zeroValue4
 t5 := Tryd.underlying5
 a5 := Tryd.isAgg5
 z5 := Tryd.sizeOf5
 v5 := Tryd.zeroValue5
 t9 := Tryd.underlying9
 a9 := Tryd.isAgg9
 z9 := Tryd.sizeOf9
 v9 := Tryd.zeroValue9
 t46 := Tryd.underlying116
 a46 := Tryd.isAgg116
 z46 := Tryd.sizeOf116
 v46 := Tryd.zeroValue116
 t53 := Tryd.underlying23
 a53 := Tryd.isAgg23
 z53 := Tryd.sizeOf23
 v53 := Tryd.zeroValue23
 t212 := Tryd.underlying127
 a212 := Tryd.isAgg127
 z212 := Tryd.sizeOf127
 v212 := Tryd.zeroValue127
 g17 := by kernel_rfl
 i0 := by kernel_rfl
 i3 := by kernel_rfl
 i4 := by kernel_rfl
 i5 := by kernel_rfl
 i9 := by kernel_rfl
 i46 := by kernel_rfl
 i53 := by kernel_rfl
 i212 := by kernel_rfl
 m17 := by kernel_rfl }
open Go.Lib in
theorem Tryd.internal_strconv_numDigits (u : Nat) (h1 : 1 ≤ u) (h2 : u < 18446744073709551616) (w : World) (htab : Lib.TabIs Tryd.prog w "internal/strconv.uint64pow10" .u64 Lib.pow10Tab) :
  Calls Tryd.prog 66 #[.int .u64 u] w fun e w' => e = .returned (.int .i64 (Lib.nDigits u)) ∧ w' = w := Any.internal_strconv_numDigits Tryd.laysM284 u h1 h2 w htab
def Tryd.lays285_ren : Go.Shelf.Ren := ⟨fun | 285 => 67 | n => n, fun | 37 => 51 | 53 => 23 | 3 => 3 | 4 => 4 | 51 => 128 | 9 => 9 | 5 => 5 | 0 => 0 | n => n, fun | n => n⟩
theorem Tryd.lays285 : Go.Proofs.Lays.n285 Tryd.prog Tryd.lays285_ren := {
 mixed := by kernel_rfl
 f285 := Tryd.func67.trans (congrArg some (by kernel_rfl))
 t0 := Tryd.underlying0
 a0 := Tryd.isAgg0
 z0 := Tryd.sizeOf0
 v0 := Tryd.zeroValue0
 t3 := Tryd.underlying3
 a3 := Tryd.isAgg3
 z3 := Tryd.sizeOf3
 v3 := Tryd.zeroValue3
 t4 := Tryd.underlying4
 a4 := Tryd.isAgg4
 z4 := Tryd.sizeOf4
 v4 := Tryd.zeroValue4
 t5 := Tryd.underlying5
 a5 := Tryd.isAgg5
 z5 := Tryd.sizeOf5
 v5 := Tryd.zeroValue5
 t9 := Tryd.underlying9
 a9 := Tryd.isAgg9
 z9 := Tryd.sizeOf9
 v9 := Tryd.zeroValue9
 t37 := Tryd.underlying51
 a37 := Tryd.isAgg51
 z37 := Tryd.sizeOf51
 v37 := Tryd.zeroValue51
 t51 := Tryd.underlying128
 a51 := Tryd.isAgg128
 z51 := Tryd.sizeOf128
 v51 := Tryd.zeroValue128
 t53 := Tryd.underlying23
 a53 := Tryd.isAgg23
 z53 := Tryd.sizeOf23
 v53 := Tryd.zeroValue23 }
open Go.RowKit Go.Sort Go.Lib in
theorem Tryd.internal_strconv_formatBase10 (blk off cap : Nat) (u : Nat) (d : Array UInt8) (w : World) (hH : Holds (fun (b : UInt8) => Value.int .u8 (b.toNat : Int)) w blk off d) (hu : u < 10 ^ d.size) (hu64 : u < 18446744073709551616) (hsz : d.size < 4611686018427387904) :
  Calls Tryd.prog 67 #[.slice (some ⟨blk, off, none⟩) d.size cap, .int .u64 u] w fun e w' =>
   e = .returned (.tuple #[]) ∧ ∃ (n v' : Nat) (dk : Array UInt8), w' = (putRow (fun (b : UInt8) => Value.int .u8 (b.toNat : Int)) w blk off dk).drewN n ∧ FmtInv d.size u 0 v' dk := Any.internal_strconv_formatBase10 Tryd.lays285 blk off cap u d w hH hu hu64 hsz
def Tryd.laysM171_ren : Go.Shelf.Ren := ⟨fun | 171 => 17 | 243 => 33 | 246 => 53 | 283 => 65 | 284 => 66 | 285 => 67 | 286 => 68 | 129 => 83 | 317 => 82 | 318 => 84 | 319 => 85 | 320 => 86 | 337 => 96 | 338 => 97 | n => n, fun | 3 => 3 | 9 => 9 | 2 => 2 | 4 => 4 | 171 => 106 | 0 => 0 | 53 => 23 | 37 => 51 | 5 => 5 | 173 => 109 | 212 => 127 | 51 => 128 | 20 => 20 | 213 => 129 | 46 => 116 | 232 => 148 | 233 => 149 | n => n, fun | 17 => 0 | 18 => 6 | 19 => 7 | n => n⟩
theorem Tryd.laysM171 : Go.Proofs.LaysM.n171 Tryd.prog Tryd.laysM171_ren := {
 mixed := by kernel_rfl
 f129 := Tryd.func83.trans (congrArg some (by kernel_rfl))
 f171 := Tryd.func17.trans (congrArg some (by kernel_rfl))
 f243 := Tryd.func33.trans (congrArg some (by kernel_rfl))
 f246 := Tryd.func53.trans (congrArg some (by kernel_rfl))
 f283 := Tryd.func65.trans (congrArg some (by kernel_rfl))
 f284 := Tryd.func66.trans (congrArg some (by kernel_rfl))
 f285 := Tryd.func67.trans (congrArg some (by kernel_rfl))
 f286 := Tryd.func68.trans (congrArg some (by kernel_rfl))
 f317 := Tryd.func82.trans (congrArg some (by kernel_rfl))
 f318 := Tryd.func84.trans (congrArg some (by kernel_rfl))
 f319 := Tryd.func85.trans (congrArg some (by kernel_rfl))
 f320 := Tryd.func86.trans (congrArg some (by kernel_rfl))
 f337 := Tryd.func96.trans (congrArg some (by kernel_rfl))
 f338 := Tryd.func97.trans (congrArg some (by kernel_rfl))
 t0 := Tryd.underlying0
 a0 := Tryd.isAgg0
 z0 := Tryd.sizeOf0
 v0 := Tryd.zeroValue0
 t2 := Tryd.underlying2
 a2 := Tryd.isAgg2
 z2 := Tryd.sizeOf2
 v2 := Tryd.zeroValue2
 t3 := Tryd.underlying3
 a3 := Tryd.isAgg3
 z3 := Tryd.sizeOf3
 v3 := Tryd.zeroValue3
 t4 := Tryd.underlying4
 a4 := Tryd.isAgg4
 z4 := Tryd.sizeOf4
 v4 := Tryd.zeroValue4
 t5 := Tryd.underlying5
 a5 := Tryd.isAgg5
 z5 := Tryd.sizeOf5
 v5 := Tryd.zeroValue5
 t9 := Tryd.underlying9
 a9 := Tryd.isAgg9
 z9 := Tryd.sizeOf9
 v9 := Tryd.zeroValue9
 t20 := Tryd.underlying20
 a20 := Tryd.isAgg20
 z20 := Tryd.sizeOf20
 v20 := Tryd.zeroValue20
 t37 := Tryd.underlying51
 a37 := Tryd.isAgg51
 z37 := Tryd.sizeOf51
 v37 := Tryd.zeroValue51
 t46 := Tryd.underlying116
 a46 := Tryd.isAgg116
 z46 := Tryd.sizeOf116
 v46 := Tryd.zeroValue116
 t51 := Tryd.underlying128
 a51 := Tryd.isAgg128
 z51 := Tryd.sizeOf128
 v51 := Tryd.zeroValue128
 t53 := Tryd.underlying23
 a53 := Tryd.isAgg23
 z53 := Tryd.sizeOf23
 v53 := Tryd.zeroValue23
 t171 := Tryd.underlying106
 a171 := Tryd.isAgg106
 z171 := Tryd.sizeOf106
 v171 := Tryd.zeroValue106
 t173 := Tryd.underlying109
 a173 := Tryd.isAgg109
 z173 := Tryd.sizeOf109
 v173 := Tryd.zeroValue109
 t212 := Tryd.underlying127
 a212 := Tryd.isAgg127
 z212 := Tryd.sizeOf127
 v212 := Tryd.zeroValue127
 t213 := Tryd.underlying129
 a213 := Tryd.isAgg129
 z213 := Tryd.sizeOf129
 t232 := Tryd.underlying148
 a232 := Tryd.isAgg148
 z232 := Tryd.sizeOf148
 v232 := Tryd.zeroValue148
 t233 := Tryd.underlying149
 a233 := Tryd.isAgg149
 z233 := Tryd.sizeOf149
 v233 := Tryd.zeroValue149
 g17 := by kernel_rfl
 g18 := by kernel_rfl
 g19 := by kernel_rfl
 i0 := by kernel_rfl
 i2 := by kernel_rfl
 i3 := by kernel_rfl
 i4 := by kernel_rfl
 i5 := by kernel_rfl
 i9 := by kernel_rfl
 i20 := by kernel_rfl
 i37 := by kernel_rfl
 i46 := by kernel_rfl
 i51 := by kernel_rfl
 i53 := by kernel_rfl
 i171 := by kernel_rfl
 i173 := by kernel_rfl
 i212 := by kernel_rfl
 i232 := by kernel_rfl
 i233 := by kernel_rfl
 m17 := by kernel_rfl
 m18 := by kernel_rfl
 m19 := by kernel_rfl }
open Go.RowKit Go.Sort Go.Lib in
theorem Tryd.strconv_Itoa (n : Int) (h0 : -9223372036854775808 ≤ n) (h1 : n ≤ 9223372036854775807) (w : World) (htab : Lib.TabIs Tryd.prog w "internal/strconv.uint64pow10" .u64 Lib.pow10Tab) :
  Calls Tryd.prog 17 #[.int .i64 n] w fun e w' => e = .returned (.string ⟨(Lib.itoa n).toArray⟩) ∧ ∃ k os, w' = grow (w.drewN k) os := Any.strconv_Itoa Tryd.laysM171 n h0 h1 w htab
def Tryd.laysPu14_ren : Go.Shelf.Ren := ⟨fun | 14 => 42 | 16 => 58 | 17 => 59 | 19 => 73 | 20 => 74 | 21 => 75 | 22 => 76 | 23 => 77 | 24 => 78 | 25 => 92 | 27 => 17 | 26 => 93 | 28 => 33 | 29 => 53 | 30 => 65 | 31 => 66 | 32 => 67 | 33 => 68 | 35 => 83 | 34 => 82 | 36 => 84 | 37 => 85 | 38 => 86 | 39 => 96 | 40 => 97 | n => n, fun | 9 => 9 | 3 => 3 | 22 => 23 | 24 => 84 | 25 => 85 | 4 => 4 | 34 => 114 | 5 => 5 | 36 => 116 | 37 => 51 | 0 => 0 | 39 => 117 | 21 => 21 | 44 => 133 | 47 => 105 | 50 => 147 | 48 => 145 | 2 => 2 | 52 => 106 | 55 => 109 | 59 => 127 | 60 => 128 | 20 => 20 | 61 => 129 | 65 => 148 | 66 => 149 | 67 => 99 | n => n, fun | 0 => 2 | 1 => 3 | 2 => 0 | 3 => 6 | 4 => 7 | n => n⟩
theorem Tryd.laysPu14 : Go.Proofs.LaysPu.n14 Tryd.prog Tryd.laysPu14_ren := {
 mixed := by kernel_rfl
 f14 := Tryd.func42.trans (congrArg some (by kernel_rfl))
 f16 := Tryd.func58.trans (congrArg some (by kernel_rfl))
 f17 := Tryd.func59.trans (congrArg some (by kernel_rfl))
 f19 := Tryd.func73.trans (congrArg some (by kernel_rfl))
 f20 := Tryd.func74.trans (congrArg some (by kernel_rfl))
 f21 := Tryd.func75.trans (congrArg some (by kernel_rfl))
 f22 := Tryd.func76.trans (congrArg some (by kernel_rfl))
 f23 := Tryd.func77.trans (congrArg some (by kernel_rfl))
 f24 := Tryd.func78.trans (congrArg some (by kernel_rfl))
 f25 := Tryd.func92.trans (congrArg some (by kernel_rfl))
 f26 := Tryd.func93.trans (congrArg some (by kernel_rfl))
 f27 := Tryd.func17.trans (congrArg some (by kernel_rfl))
 f28 := Tryd.func33.trans (congrArg some (by kernel_rfl))
 f29 := Tryd.func53.trans (congrArg some (by kernel_rfl))
 f30 := Tryd.func65.trans (congrArg some (by kernel_rfl))
 f31 := Tryd.func66.trans (congrArg some (by kernel_rfl))
 f32 := Tryd.func67.trans (congrArg some (by kernel_rfl))
 f33 := Tryd.func68.trans (congrArg some (by kernel_rfl))
 f34 := Tryd.func82.trans (congrArg some (by kernel_rfl))
 f35 := Tryd.func83.trans (congrArg some (by kernel_rfl))
 f36 := Tryd.func84.trans (congrArg some (by kernel_rfl))
 f37 := Tryd.func85.trans (congrArg some (by kernel_rfl))
 f38 := Tryd.func86.trans (congrArg some (by kernel_rfl))
 f39 := Tryd.func96.trans (congrArg some (by kernel_rfl))
 f40 := Tryd.func97.trans (congrArg some (by kernel_rfl))
 t0 := Tryd.underlying0
 a0 := Tryd.isAgg0
 z0 := Tryd.sizeOf0
 v0 := Tryd.zeroValue0
 i0 := by kernel_rfl
 t2 := Tryd.underlying2
 a2 := Tryd.isAgg2
 z2 := Tryd.sizeOf2
 v2 := Tryd.zeroValue2
 i2 := by kernel_rfl
 t3 := Tryd.underlying3
 a3 := Tryd.isAgg3
 z3 := Tryd.sizeOf3
 v3 := Tryd.zeroValue3
 i3 := by kernel_rfl
 t4 := Tryd.underlying4
 a4 := Tryd.isAgg4
 z4 := Tryd.sizeOf4
 v4 := Tryd.zeroValue4
 i4 := by kernel_rfl
 t5 := Tryd.underlying5
 a5 := Tryd.isAgg5
 z5 := Tryd.sizeOf5
 v5 := Tryd.zeroValue5
 i5 := by kernel_rfl
 t9 := Tryd.underlying9
 a9 := Tryd.isAgg9
 z9 := Tryd.sizeOf9
 v9 := Tryd.zeroValue9
 i9 := by kernel_rfl
 t20 := Tryd.underlying20
 a20 := Tryd.isAgg20
 z20 := Tryd.sizeOf20
 v20 := Tryd.zeroValue20
 i20 := by kernel_rfl
 t21 := Tryd.underlying21
 a21 := Tryd.isAgg21
 z21 := Tryd.sizeOf21
 v21 := Tryd.zeroValue21
 i21 := by kernel_rfl
 t22 := Tryd.underlying23
 a22 := Tryd.isAgg23
 z22 := Tryd.sizeOf23
 v22 := Tryd.zeroValue23
 i22 := by kernel_rfl
 t24 := Tryd.underlying84
 a24 := Tryd.isAgg84
 z24 := Tryd.sizeOf84
 v24 := Tryd.zeroValue84
 i24 := by kernel_rfl
 t25 := Tryd.underlying85
 a25 := Tryd.isAgg85
 z25 := Tryd.sizeOf85
 v25 := Tryd.zeroValue85
 i25 := by kernel_rfl
 t34 := Tryd.underlying114
 a34 := Tryd.isAgg114
 z34 := Tryd.sizeOf114
 v34 := Tryd.zeroValue114
 i34 := by kernel_rfl
 c34 := by kernel_rfl
 t36 := Tryd.underlying116
 a36 := Tryd.isAgg116
 z36 := Tryd.sizeOf116
 v36 := Tryd.zeroValue116
 i36 := by kernel_rfl
 t37 := Tryd.underlying51
 a37 := Tryd.isAgg51
 z37 := Tryd.sizeOf51
 v37 := Tryd.zeroValue51
 i37 := by kernel_rfl
 t39 := Tryd.underlying117
 a39 := Tryd.isAgg117
 z39 := Tryd.sizeOf117
 v39 := Tryd.zeroValue117
 i39 := by kernel_rfl
 t44 := Tryd.underlying133
 a44 := Tryd.isAgg133
 z44 := Tryd.sizeOf133
 v44 := Tryd.zeroValue133
 i44 := by kernel_rfl
 t47 := Tryd.underlying105
 a47 := Tryd.isAgg105
 z47 := Tryd.sizeOf105
 v47 := Tryd.zeroValue105
 i47 := by kernel_rfl
 t48 := Tryd.underlying145
 a48 := Tryd.isAgg145
 z48 := Tryd.sizeOf145
 v48 := Tryd.zeroValue145
 i48 := by kernel_rfl
 t50 := Tryd.underlying147
 a50 := Tryd.isAgg147
 z50 := Tryd.sizeOf147
 v50 := Tryd.zeroValue147
 i50 := by kernel_rfl
 t52 := Tryd.underlying106
 a52 := Tryd.isAgg106
 z52 := Tryd.sizeOf106
 v52 := Tryd.zeroValue106
 i52 := by kernel_rfl
 t55 := Tryd.underlying109
 a55 := Tryd.isAgg109
 z55 := Tryd.sizeOf109
 v55 := Tryd.zeroValue109
 i55 := by kernel_rfl
 t59 := Tryd.underlying127
 a59 := Tryd.isAgg127
 z59 := Tryd.sizeOf127
 v59 := Tryd.zeroValue127
 i59 := by kernel_rfl
 t60 := Tryd.underlying128
 a60 := Tryd.isAgg128
 z60 := Tryd.sizeOf128
 v60 := Tryd.zeroValue128
 i60 := by kernel_rfl
 t61 := Tryd.underlying129
 a61 := Tryd.isAgg129
 z61 := Tryd.sizeOf129
 t65 := Tryd.underlying148
 a65 := Tryd.isAgg148
 z65 := Tryd.sizeOf148
 v65 := Tryd.zeroValue148
 i65 := by kernel_rfl
 t66 := Tryd.underlying149
 a66 := Tryd.isAgg149
 z66 := Tryd.sizeOf149
 v66 := Tryd.zeroValue149
 i66 := by kernel_rfl
 t67 := Tryd.underlying99
 a67 := Tryd.isAgg99
 z67 := Tryd.sizeOf99
 v67 := Tryd.zeroValue99
 i67 := by kernel_rfl
 g0 := by kernel_rfl
 m0 := by kernel_rfl
 g1 := by kernel_rfl
 m1 := by kernel_rfl
 g2 := by kernel_rfl
 m2 := by kernel_rfl
 g3 := by kernel_rfl
 m3 := by kernel_rfl
 g4 := by kernel_rfl
 m4 := by kernel_rfl }
open Go.RowKit in
theorem Tryd.strconv_ParseUint_10_at64_ok (s : ByteArray) (hmax : s.size ≤ 9223372036854775806) (u : Nat) (h : Lib.parseUintB 64 s.data.toList = .ok u) (w : World) :
  Calls Tryd.prog 42 #[.string s, .int .i64 10, .int .i64 64] w fun e w' => e = .returned (.tuple #[.int .u64 u, .nilIface]) ∧ (w' = w ∨ w' = Lib.bytesWorld w 5 s) := Any.strconv_ParseUint_10_at64_ok Tryd.laysPu14 s hmax u h w
open Go.RowKit in
theorem Tryd.strconv_ParseUint_10_at64_syntax (s : ByteArray) (hlim : s.size ≤ 281474976710656) (h : Lib.parseUintB 64 s.data.toList = .«syntax») (ev : Value) (w : World) (hv : w.cell? ⟨2, 0, none⟩ = some ev) (hev : ev = .nilIface ∨ ∃ te pe, ev = .iface te pe) :
  Calls Tryd.prog 42 #[.string s, .int .i64 10, .int .i64 64] w fun e w' => ∃ N, e = .returned (.tuple #[.int .u64 0, .iface 117 (.pointer (some ⟨N, 0, none⟩))]) ∧ w.heap.size ≤ N ∧ w'.heap[N]? = some (.cells #[.string ⟨#[80, 97, 114, 115, 101, 85, 105, 110, 116]⟩, .string s, ev] 133 (0, 0)) ∧ Below w.heap.size w w' := Any.strconv_ParseUint_10_at64_syntax Tryd.laysPu14 s hlim h ev w hv hev
open Go.RowKit in
theorem Tryd.strconv_ParseUint_10_at64_range (s : ByteArray) (hlim : s.size ≤ 281474976710656) (h : Lib.parseUintB 64 s.data.toList = .range) (ev : Value) (w : World) (hv : w.cell? ⟨3, 0, none⟩ = some ev) (hev : ev = .nilIface ∨ ∃ te pe, ev = .iface te pe) :
  Calls Tryd.prog 42 #[.string s, .int .i64 10, .int .i64 64] w fun e w' => ∃ N, e = .returned (.tuple #[.int .u64 18446744073709551615, .iface 117 (.pointer (some ⟨N, 0, none⟩))]) ∧ w.heap.size ≤ N ∧ w'.heap[N]? = some (.cells #[.string ⟨#[80, 97, 114, 115, 101, 85, 105, 110, 116]⟩, .string s, ev] 133 (0, 0)) ∧ Below w.heap.size w w' := Any.strconv_ParseUint_10_at64_range Tryd.laysPu14 s hlim h ev w hv hev
def Tryd.lays145_ren : Go.Shelf.Ren := ⟨fun | 145 => 43 | 220 => 60 | 219 => 72 | 217 => 88 | 225 => 89 | 224 => 90 | 267 => 91 | 266 => 98 | 314 => 99 | n => n, fun | 9 => 9 | 4 => 4 | 59 => 87 | 3 => 3 | 5 => 5 | 46 => 116 | 146 => 135 | 51 => 128 | n => n, fun | 1 => 1 | n => n⟩
theorem Tryd.lays145 : Go.Proofs.Lays.n145 Tryd.prog Tryd.lays145_ren := {
 mixed := by kernel_rfl
 f145 := Tryd.func43.trans (congrArg some (by kernel_rfl))
 f217 := Tryd.func88.trans (congrArg some (by kernel_rfl))
 f219 := Tryd.func72.trans (congrArg some (by kernel_rfl))
 f220 := Tryd.func60.trans (congrArg some (by kernel_rfl))
 f224 := Tryd.func90.trans (congrArg some (by kernel_rfl))
 f225 := Tryd.func89.trans (congrArg some (by kernel_rfl))
 f266 := Tryd.func98.trans (congrArg some (by kernel_rfl))
 f267 := Tryd.func91.trans (congrArg some (by kernel_rfl))
 f314 := Tryd.func99.trans (congrArg some (by kernel_rfl))
 t3 := Tryd.underlying3
 a3 := Tryd.isAgg3
 z3 := Tryd.sizeOf3
 v3 := Tryd.zeroValue3
 t4 := Tryd.underlying4
 a4 := Tryd.isAgg4
 z4 := Tryd.sizeOf4
 v4 := Tryd.zeroValue4
 t5 := Tryd.underlying5
 a5 := Tryd.isAgg5
 z5 := Tryd.sizeOf5
 v5 := Tryd.zeroValue5
 t9 := Tryd.underlying9
 a9 := Tryd.isAgg9
 z9 := Tryd.sizeOf9
 v9 := Tryd.zeroValue9
 t46 := Tryd.underlying116
 a46 := Tryd.isAgg116
 z46 := Tryd.sizeOf116
 v46 := Tryd.zeroValue116
 t51 := Tryd.underlying128
 a51 := Tryd.isAgg128
 z51 := Tryd.sizeOf128
 v51 := Tryd.zeroValue128
 t59 := Tryd.underlying87
 a59 := Tryd.isAgg87
 z59 := Tryd.sizeOf87
 v59 := Tryd.zeroValue87
 t146 := Tryd.underlying135
 a146 := Tryd.isAgg135
 z146 := Tryd.sizeOf135
 v146 := Tryd.zeroValue135
 g1 := by kernel_rfl }
open Go.RowKit Go.Lib in
theorem Tryd.strings_Cut (s sep : ByteArray) (m : Int) (w : World) (hs : s.size < 4294967281) (hm : w.cell? ⟨1, 0, none⟩ = some (.int .i64 m)) :
  Calls Tryd.prog 43 #[.string s, .string sep] w fun e w' => e = .returned (.tuple #[.string ⟨(Lib.cut s.data.toList sep.data.toList).1.toArray⟩, .string ⟨(Lib.cut s.data.toList sep.data.toList).2.1.toArray⟩, .bool (Lib.cut s.data.toList sep.data.toList).2.2]) ∧ ∃ n, w' = w.drewN n := Any.strings_Cut Tryd.lays145 s sep m w hs hm
def Tryd.lays146_ren : Go.Shelf.Ren := ⟨fun | 146 => 26 | 221 => 41 | 268 => 55 | 138 => 56 | 143 => 57 | 195 => 69 | 197 => 70 | 218 => 71 | 219 => 72 | 260 => 87 | 217 => 88 | 225 => 89 | 224 => 90 | 267 => 91 | 266 => 98 | 314 => 99 | n => n, fun | 9 => 9 | 31 => 55 | 3 => 3 | 4 => 4 | 0 => 0 | 105 => 111 | 21 => 21 | 5 => 5 | 46 => 116 | 119 => 140 | 139 => 143 | 138 => 142 | 146 => 135 | 51 => 128 | n => n, fun | 1 => 1 | 3 => 4 | 4 => 5 | n => n⟩
theorem Tryd.lays146 : Go.Proofs.Lays.n146 Tryd.prog Tryd.lays146_ren := {
 mixed := by kernel_rfl
 f138 := Tryd.func56.trans (congrArg some (by kernel_rfl))
 f143 := Tryd.func57.trans (congrArg some (by kernel_rfl))
 f146 := Tryd.func26.trans (congrArg some (by kernel_rfl))
 f195 := Tryd.func69.trans (congrArg some (by kernel_rfl))
 f197 := Tryd.func70.trans (congrArg some (by kernel_rfl))
 f217 := Tryd.func88.trans (congrArg some (by kernel_rfl))
 f218 := Tryd.func71.trans (congrArg some (by kernel_rfl))
 f219 := Tryd.func72.trans (congrArg some (by kernel_rfl))
 f221 := Tryd.func41.trans (congrArg some (by kernel_rfl))
 f224 := Tryd.func90.trans (congrArg some (by kernel_rfl))
 f225 := Tryd.func89.trans (congrArg some (by kernel_rfl))
 f260 := Tryd.func87.trans (congrArg some (by kernel_rfl))
 f266 := Tryd.func98.trans (congrArg some (by kernel_rfl))
 f267 := Tryd.func91.trans (congrArg some (by kernel_rfl))
 f268 := Tryd.func55.trans (congrArg some (by kernel_rfl))
 f314 := Tryd.func99.trans (congrArg some (by kernel_rfl))
 t0 := Tryd.underlying0
 a0 := Tryd.isAgg0
 z0 := Tryd.sizeOf0
 v0 := Tryd.zeroValue0
 t3 := Tryd.underlying3
 a3 := Tryd.isAgg3
 z3 := Tryd.sizeOf3
 v3 := Tryd.zeroValue3
 t4 := Tryd.underlying4
 a4 := Tryd.isAgg4
 z4 := Tryd.sizeOf4
 v4 := Tryd.zeroValue4
 t5 := Tryd.underlying5
 a5 := Tryd.isAgg5
 z5 := Tryd.sizeOf5
 v5 := Tryd.zeroValue5
 t9 := Tryd.underlying9
 a9 := Tryd.isAgg9
 z9 := Tryd.sizeOf9
 v9 := Tryd.zeroValue9
 t21 := Tryd.underlying21
 a21 := Tryd.isAgg21
 z21 := Tryd.sizeOf21
 v21 := Tryd.zeroValue21
 t31 := Tryd.underlying55
 a31 := Tryd.isAgg55
 z31 := Tryd.sizeOf55
 v31 := Tryd.zeroValue55
 t46 := Tryd.underlying116
 a46 := Tryd.isAgg116
 z46 := Tryd.sizeOf116
 v46 := Tryd.zeroValue116
 t51 := Tryd.underlying128
 a51 := Tryd.isAgg128
 z51 := Tryd.sizeOf128
 v51 := Tryd.zeroValue128
 t105 := Tryd.underlying111
 a105 := Tryd.isAgg111
 z105 := Tryd.sizeOf111
 v105 := Tryd.zeroValue111
 t119 := Tryd.underlying140
 a119 := Tryd.isAgg140
 z119 := Tryd.sizeOf140
 t138 := Tryd.underlying142
 a138 := Tryd.isAgg142
 z138 := Tryd.sizeOf142
 v138 := Tryd.zeroValue142
 t139 := Tryd.underlying143
 a139 := Tryd.isAgg143
 z139 := Tryd.sizeOf143
 v139 := Tryd.zeroValue143
 t146 := Tryd.underlying135
 a146 := Tryd.isAgg135
 z146 := Tryd.sizeOf135
 v146 := Tryd.zeroValue135
 g1 := by kernel_rfl
 g3 := by kernel_rfl
 g4 := by kernel_rfl }
open Go.RowKit Go.Lib in
theorem Tryd.strings_Split (s sep : ByteArray) (m : Int) (w : World) (hs : s.size < 4294967281) (hm : w.cell? ⟨1, 0, none⟩ = some (.int .i64 m)) (h1 : 1 ≤ sep.size) :
  Calls Tryd.prog 26 #[.string s, .string sep] w fun e w' =>
   e = .returned (.slice (some ⟨w.heap.size, 0, none⟩) (Lib.countB s sep + 1) (Lib.countB s sep + 1)) ∧ w' = w.alloc (.cells ((Lib.splitB sep 0 (Lib.countB s sep) s).map Value.string).toArray 9) := Any.strings_Split Tryd.lays146 (by kernel_rfl) s sep m w hs hm h1
def Tryd.lays212_ren : Go.Shelf.Ren := ⟨fun | 212 => 79 | 263 => 94 | 264 => 95 | n => n, fun | 46 => 116 | 51 => 128 | 146 => 135 | 53 => 23 | 148 => 137 | n => n, fun | n => n⟩
theorem Tryd.lays212 : Go.Proofs.Lays.n212 Tryd.prog Tryd.lays212_ren := {
 mixed := by kernel_rfl
 f212 := Tryd.func79.trans (congrArg some (by kernel_rfl))
 f263 := Tryd.func94.trans (congrArg some (by kernel_rfl))
 f264 := Tryd.func95.trans (congrArg some (by kernel_rfl))
 t46 := Tryd.underlying116
 a46 := Tryd.isAgg116
 z46 := Tryd.sizeOf116
 v46 := Tryd.zeroValue116
 t51 := Tryd.underlying128
 a51 := Tryd.isAgg128
 z51 := Tryd.sizeOf128
 v51 := Tryd.zeroValue128
 t53 := Tryd.underlying23
 a53 := Tryd.isAgg23
 z53 := Tryd.sizeOf23
 v53 := Tryd.zeroValue23
 t146 := Tryd.underlying135
 a146 := Tryd.isAgg135
 z146 := Tryd.sizeOf135
 v146 := Tryd.zeroValue135
 t148 := Tryd.underlying137
 a148 := Tryd.isAgg137
 z148 := Tryd.sizeOf137
 v148 := Tryd.zeroValue137 }
open Go.RowKit Go.Lib in
theorem Tryd.bits_Mul (x y : Nat) (hx : x < 18446744073709551616) (hy : y < 18446744073709551616) (w : World) :
  Calls Tryd.prog 79 #[.int .u64 x, .int .u64 y] w fun e w' => e = .returned (.tuple #[.int .u64 ((x * y / 18446744073709551616 : Nat) : Int), .int .u64 ((x * y % 18446744073709551616 : Nat) : Int)]) ∧ w' = w := Any.bits_Mul Tryd.lays212 x y hx hy w
def Tryd.lays113_ren : Go.Shelf.Ren := ⟨fun | 113 => 47 | n => n, fun | 28 => 34 | 3 => 3 | 4 => 4 | 9 => 9 | 20 => 20 | 0 => 0 | n => n, fun | n => n⟩
theorem Tryd.lays113 : Go.Proofs.Lays.n113 Tryd.prog Tryd.lays113_ren := {
 mixed := by kernel_rfl
 f113 := Tryd.func47.trans (congrArg some (by kernel_rfl))
 t0 := Tryd.underlying0
 a0 := Tryd.isAgg0
 z0 := Tryd.sizeOf0
 v0 := Tryd.zeroValue0
 t3 := Tryd.underlying3
 a3 := Tryd.isAgg3
 z3 := Tryd.sizeOf3
 v3 := Tryd.zeroValue3
 t4 := Tryd.underlying4
 a4 := Tryd.isAgg4
 z4 := Tryd.sizeOf4
 v4 := Tryd.zeroValue4
 t9 := Tryd.underlying9
 a9 := Tryd.isAgg9
 z9 := Tryd.sizeOf9
 v9 := Tryd.zeroValue9
 t20 := Tryd.underlying20
 a20 := Tryd.isAgg20
 z20 := Tryd.sizeOf20
 v20 := Tryd.zeroValue20
 t28 := Tryd.underlying34
 a28 := Tryd.isAgg34
 z28 := Tryd.sizeOf34
 v28 := Tryd.zeroValue34 }
open Go.Lib in
theorem Tryd.slices_Max_int (b off n c : Nat) (zs : List Int) (w : World) (hn : 0 < n) (hz : n ≤ zs.length) (hbig : n ≤ 9223372036854775807) (hc : ∀ j, j < zs.length → w.cell? ⟨b, off + j, none⟩ = some (.int .i64 (zs.getD j 0))) :
  Calls Tryd.prog 47 #[.slice (some ⟨b, off, none⟩) n c] w fun e w' => e = .returned (.int .i64 (Lib.maxOf (zs.take n))) ∧ w' = w := Any.slices_Max_int Tryd.lays113 b off n c zs w hn hz hbig hc
end Go.Proofs
