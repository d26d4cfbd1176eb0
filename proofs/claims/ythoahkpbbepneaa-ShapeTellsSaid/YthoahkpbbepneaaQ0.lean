-- Laid by a program of this session (wip/myprint.py) in the form of the kit's print; a text of this claim, checked by Lean like any other.
import Derived.Test.YthoahkpbbepneaaProg
import Derived.Below
import Derived.Deep.Draws
import Derived.Deep.AppendLies
import Derived.Maps.AppendAt
import Derived.OwnWalk
import Derived.Laws.BytesArg
import Derived.Laws.MakeOwn
import Derived.Laws.OwnMore
import Derived.Deep.OwnRows
import Derived.Tactics
import Derived.Lib.ConvBytes
import Derived.Laws.Slices
import Derived.WalkKit
import Derived.KernelRfl
import Derived.RowKit3
import Derived.Deep.LoopGhost
import Derived.Deep.QuietTactic
import Derived.BigQuiet
import Derived.WideLaws
import Derived.Deep.DeepCutAuto
import Derived.Deep.CutBlock
import Derived.Deep.RegionHeld3
import Derived.Laws.Rows
import Derived.Lib.AppendStr
import Derived.ArgAppend
import Derived.Laws.IdiomCopy
import Derived.OrdersHeld
import Derived.Laws.BitsLemmas
import Derived.RowKit
import Derived.Test.YthoahkpbbepneaaWWords
import Derived.Test.YthoahkpbbepneaaWLast
import Derived.Test.YthoahkpbbepneaaWTab
import Derived.Test.YthoahkpbbepneaaWFour
import Derived.Test.YthoahkpbbepneaaWQPut
import Derived.Test.YthoahkpbbepneaaWApart
import Derived.Test.YthoahkpbbepneaaWArr
import Derived.Test.YthoahkpbbepneaaWZeros
import Derived.Test.YthoahkpbbepneaaWFoot
import Derived.Test.YthoahkpbbepneaaWKept
import Derived.Test.YthoahkpbbepneaaWShare
import Derived.Test.YthoahkpbbepneaaWN
import Derived.Test.YthoahkpbbepneaaWFootNe
import Derived.Test.YthoahkpbbepneaaWAt
import Derived.Test.YthoahkpbbepneaaWEqStruct
import Derived.Test.YthoahkpbbepneaaWRepsOne
import Derived.Test.YthoahkpbbepneaaWInv
import Derived.Test.YthoahkpbbepneaaWInvWords
import Derived.Test.YthoahkpbbepneaaWGuard
import Derived.Test.YthoahkpbbepneaaWNEv
import Derived.Test.YthoahkpbbepneaaWMore
namespace Go.Proofs.Ythoahkpbbepneaa.Q
open Go.RowKit Go.Proofs.YthoahkpbbepneaaW.PrintWords Go.Proofs.YthoahkpbbepneaaW.PrintLast Go.Proofs.YthoahkpbbepneaaW.PrintMore
attribute [local go_sem] max2_int min2_int max_two min_two max_three min_three max_four min_four   -- for this text's walks alone
set_option linter.unusedVariables false
set_option linter.unusedSimpArgs false



def errW : Option Int → Value
  | none => .nilIface
  | some c => .iface 0 (.int .i64 c)
theorem errW_none : errW none = .nilIface := rfl
theorem errW_some (c : Int) : errW (some c) = .iface 0 (.int .i64 c) := rfl

-- the values' own types

end Go.Proofs.Ythoahkpbbepneaa.Q
