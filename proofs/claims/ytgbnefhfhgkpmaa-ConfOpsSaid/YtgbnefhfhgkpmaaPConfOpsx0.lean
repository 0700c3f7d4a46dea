-- PRINTED BY print.sh 35421559b90ae4d0a3588c463048766b98c2df88dd9212a6774a882060cdf62d: not written by this session
import Derived.Test.YtgbnefhfhgkpmaaProg
import Derived.Below
import Derived.Deep.Draws
import Derived.Deep.AppendLies
import Derived.Maps.AppendAt
import Derived.OwnWalk
import Derived.Laws.BytesArg
import Derived.Laws.MakeOwn
import Derived.Laws.OwnMore
import Derived.Deep.OwnRows
import Derived.Tactics
import Derived.Lib.ConvBytes
import Derived.Laws.Slices
import Derived.WalkKit
import Derived.KernelRfl
import Derived.RowKit3
import Derived.Deep.LoopGhost
import Derived.Deep.QuietTactic
import Derived.BigQuiet
import Derived.WideLaws
import Derived.Deep.DeepCutAuto
import Derived.Deep.CutBlock
import Derived.Deep.RegionHeld3
import Derived.Laws.Rows
import Derived.Lib.AppendStr
import Derived.ArgAppend
import Derived.Laws.IdiomCopy
import Derived.OrdersHeld
import Derived.Laws.BitsLemmas
import Derived.RowKit
import Derived.Test.YtgbnefhfhgkpmaaWWords
import Derived.Test.YtgbnefhfhgkpmaaWLast
import Derived.Test.YtgbnefhfhgkpmaaWTab
import Derived.Test.YtgbnefhfhgkpmaaWFour
import Derived.Test.YtgbnefhfhgkpmaaWQPut
import Derived.Test.YtgbnefhfhgkpmaaWApart
import Derived.Test.YtgbnefhfhgkpmaaWArr
import Derived.Test.YtgbnefhfhgkpmaaWZeros
import Derived.Test.YtgbnefhfhgkpmaaWFoot
import Derived.Test.YtgbnefhfhgkpmaaWKept
import Derived.Test.YtgbnefhfhgkpmaaWShare
import Derived.Test.YtgbnefhfhgkpmaaWN
import Derived.Test.YtgbnefhfhgkpmaaWFootNe
import Derived.Test.YtgbnefhfhgkpmaaWAt
import Derived.Test.YtgbnefhfhgkpmaaWEqStruct
import Derived.Test.YtgbnefhfhgkpmaaWRepsOne
import Derived.Test.YtgbnefhfhgkpmaaWInv
import Derived.Test.YtgbnefhfhgkpmaaWInvWords
import Derived.Test.YtgbnefhfhgkpmaaWGuard
import Derived.Test.YtgbnefhfhgkpmaaWNEv
import Derived.Test.YtgbnefhfhgkpmaaWMore
namespace Go.Proofs.Ytgbnefhfhgkpmaa.PConfOps
open Go.RowKit Go.Proofs.YtgbnefhfhgkpmaaW.PrintWords Go.Proofs.YtgbnefhfhgkpmaaW.PrintLast Go.Proofs.YtgbnefhfhgkpmaaW.PrintMore
attribute [local go_sem] max2_int min2_int max_two min_two max_three min_three max_four min_four   -- for this text's walks alone
set_option linter.unusedVariables false
set_option linter.unusedSimpArgs false



def errW : Option Int → Value
  | none => .nilIface
  | some c => .iface 0 (.int .i64 c)
theorem errW_none : errW none = .nilIface := rfl
theorem errW_some (c : Int) : errW (some c) = .iface 0 (.int .i64 c) := rfl

-- the values' own types

end Go.Proofs.Ytgbnefhfhgkpmaa.PConfOps
