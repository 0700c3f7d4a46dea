-- WRITTEN BY A PROGRAM OF THIS SESSION (xprint.sh): the walks of plain functions over contracts of my own.
import Derived.Test.YtcncndhoeiaoeaaDoorProg
import Derived.Below
import Derived.Deep.Draws
import Derived.Deep.AppendLies
import Derived.Maps.AppendAt
import Derived.OwnWalk
import Derived.Laws.BytesArg
import Derived.Laws.MakeOwn
import Derived.Laws.OwnMore
import Derived.Deep.OwnRows
import Derived.Tactics
import Derived.Lib.ConvBytes
import Derived.Laws.Slices
import Derived.WalkKit
import Derived.KernelRfl
import Derived.RowKit3
import Derived.Deep.LoopGhost
import Derived.Deep.QuietTactic
import Derived.BigQuiet
import Derived.WideLaws
import Derived.Deep.DeepCutAuto
import Derived.Deep.CutBlock
import Derived.Deep.RegionHeld3
import Derived.Laws.Rows
import Derived.Lib.AppendStr
import Derived.ArgAppend
import Derived.Laws.IdiomCopy
import Derived.OrdersHeld
import Derived.Laws.BitsLemmas
import Derived.RowKit
import Derived.Test.YtcncndhoeiaoeaaDoorWWords
import Derived.Test.YtcncndhoeiaoeaaDoorWLast
import Derived.Test.YtcncndhoeiaoeaaDoorWTab
import Derived.Test.YtcncndhoeiaoeaaDoorWFour
import Derived.Test.YtcncndhoeiaoeaaDoorWQPut
import Derived.Test.YtcncndhoeiaoeaaDoorWApart
import Derived.Test.YtcncndhoeiaoeaaDoorWArr
import Derived.Test.YtcncndhoeiaoeaaDoorWZeros
import Derived.Test.YtcncndhoeiaoeaaDoorWFoot
import Derived.Test.YtcncndhoeiaoeaaDoorWKept
import Derived.Test.YtcncndhoeiaoeaaDoorWShare
import Derived.Test.YtcncndhoeiaoeaaDoorWN
import Derived.Test.YtcncndhoeiaoeaaDoorWFootNe
import Derived.Test.YtcncndhoeiaoeaaDoorWAt
import Derived.Test.YtcncndhoeiaoeaaDoorWEqStruct
import Derived.Test.YtcncndhoeiaoeaaDoorWRepsOne
import Derived.Test.YtcncndhoeiaoeaaDoorWInv
import Derived.Test.YtcncndhoeiaoeaaDoorWInvWords
import Derived.Test.YtcncndhoeiaoeaaDoorWGuard
import Derived.Test.YtcncndhoeiaoeaaDoorWNEv
import Derived.Test.YtcncndhoeiaoeaaDoorWMore
namespace Go.Proofs.YtcncndhoeiaoeaaDoor.PPlaceExact
open Go.RowKit Go.Proofs.YtcncndhoeiaoeaaDoorW.PrintWords Go.Proofs.YtcncndhoeiaoeaaDoorW.PrintLast Go.Proofs.YtcncndhoeiaoeaaDoorW.PrintMore
attribute [local go_sem] max2_int min2_int max_two min_two max_three min_three max_four min_four   -- for this text's walks alone
set_option linter.unusedVariables false
set_option linter.unusedSimpArgs false



def errW : Option Int → Value
  | none => .nilIface
  | some c => .iface 0 (.int .i64 c)
theorem errW_none : errW none = .nilIface := rfl
theorem errW_some (c : Int) : errW (some c) = .iface 0 (.int .i64 c) := rfl

-- the values' own types

end Go.Proofs.YtcncndhoeiaoeaaDoor.PPlaceExact
