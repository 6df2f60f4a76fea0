/- What functions of the program compute, each with the walk that shows it: by a program (a turned copy of the kit's print; wip/myprint.py). -/
import Derived.Test.YtkkfckfmjhfakaaProg
import Derived.Below
import Derived.Deep.Draws
import Derived.Deep.AppendLies
import Derived.Maps.AppendAt
import Derived.OwnWalk
import Derived.Laws.BytesArg
import Derived.Laws.MakeOwn
import Derived.Laws.OwnMore
import Derived.Deep.OwnRows
import Derived.Tactics
import Derived.Lib.ConvBytes
import Derived.Laws.Slices
import Derived.WalkKit
import Derived.KernelRfl
import Derived.RowKit3
import Derived.Deep.LoopGhost
import Derived.Deep.QuietTactic
import Derived.BigQuiet
import Derived.WideLaws
import Derived.Deep.DeepCutAuto
import Derived.Deep.CutBlock
import Derived.Deep.RegionHeld3
import Derived.Laws.Rows
import Derived.Lib.AppendStr
import Derived.ArgAppend
import Derived.Laws.IdiomCopy
import Derived.OrdersHeld
import Derived.Laws.BitsLemmas
import Derived.RowKit
import Derived.Test.YtkkfckfmjhfakaaWWords
import Derived.Test.YtkkfckfmjhfakaaWLast
import Derived.Test.YtkkfckfmjhfakaaWTab
import Derived.Test.YtkkfckfmjhfakaaWFour
import Derived.Test.YtkkfckfmjhfakaaWQPut
import Derived.Test.YtkkfckfmjhfakaaWApart
import Derived.Test.YtkkfckfmjhfakaaWArr
import Derived.Test.YtkkfckfmjhfakaaWZeros
import Derived.Test.YtkkfckfmjhfakaaWFoot
import Derived.Test.YtkkfckfmjhfakaaWKept
import Derived.Test.YtkkfckfmjhfakaaWShare
import Derived.Test.YtkkfckfmjhfakaaWN
import Derived.Test.YtkkfckfmjhfakaaWFootNe
import Derived.Test.YtkkfckfmjhfakaaWAt
import Derived.Test.YtkkfckfmjhfakaaWEqStruct
import Derived.Test.YtkkfckfmjhfakaaWRepsOne
import Derived.Test.YtkkfckfmjhfakaaWInv
import Derived.Test.YtkkfckfmjhfakaaWInvWords
import Derived.Test.YtkkfckfmjhfakaaWGuard
import Derived.Test.YtkkfckfmjhfakaaWNEv
import Derived.Test.YtkkfckfmjhfakaaWMore
namespace Go.Proofs.Ytkkfckfmjhfakaa.P
open Go.RowKit Go.Proofs.YtkkfckfmjhfakaaW.PrintWords Go.Proofs.YtkkfckfmjhfakaaW.PrintLast Go.Proofs.YtkkfckfmjhfakaaW.PrintMore
attribute [local go_sem] max2_int min2_int max_two min_two max_three min_three max_four min_four   -- for this text's walks alone
set_option linter.unusedVariables false
set_option linter.unusedSimpArgs false



def errW : Option Int → Value
  | none => .nilIface
  | some c => .iface 0 (.int .i64 c)
theorem errW_none : errW none = .nilIface := rfl
theorem errW_some (c : Int) : errW (some c) = .iface 0 (.int .i64 c) := rfl

-- the values' own types

end Go.Proofs.Ytkkfckfmjhfakaa.P
