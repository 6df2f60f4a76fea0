/- What functions of the program compute, each with the walk that shows it: by a program (a turned copy of the kit's print; wip/myprint.py). -/
import Derived.Test.YtbbboejcjcakbaaProg
import Derived.Below
import Derived.Deep.Draws
import Derived.Deep.AppendLies
import Derived.Maps.AppendAt
import Derived.OwnWalk
import Derived.Laws.BytesArg
import Derived.Laws.MakeOwn
import Derived.Laws.OwnMore
import Derived.Deep.OwnRows
import Derived.Tactics
import Derived.Lib.ConvBytes
import Derived.Laws.Slices
import Derived.WalkKit
import Derived.KernelRfl
import Derived.RowKit3
import Derived.Deep.LoopGhost
import Derived.Deep.QuietTactic
import Derived.BigQuiet
import Derived.WideLaws
import Derived.Deep.DeepCutAuto
import Derived.Deep.CutBlock
import Derived.Deep.RegionHeld3
import Derived.Laws.Rows
import Derived.Lib.AppendStr
import Derived.ArgAppend
import Derived.Laws.IdiomCopy
import Derived.OrdersHeld
import Derived.Laws.BitsLemmas
import Derived.RowKit
import Derived.Test.YtbbboejcjcakbaaWWords
import Derived.Test.YtbbboejcjcakbaaWLast
import Derived.Test.YtbbboejcjcakbaaWTab
import Derived.Test.YtbbboejcjcakbaaWFour
import Derived.Test.YtbbboejcjcakbaaWQPut
import Derived.Test.YtbbboejcjcakbaaWApart
import Derived.Test.YtbbboejcjcakbaaWArr
import Derived.Test.YtbbboejcjcakbaaWZeros
import Derived.Test.YtbbboejcjcakbaaWFoot
import Derived.Test.YtbbboejcjcakbaaWKept
import Derived.Test.YtbbboejcjcakbaaWShare
import Derived.Test.YtbbboejcjcakbaaWN
import Derived.Test.YtbbboejcjcakbaaWFootNe
import Derived.Test.YtbbboejcjcakbaaWAt
import Derived.Test.YtbbboejcjcakbaaWEqStruct
import Derived.Test.YtbbboejcjcakbaaWRepsOne
import Derived.Test.YtbbboejcjcakbaaWInv
import Derived.Test.YtbbboejcjcakbaaWInvWords
import Derived.Test.YtbbboejcjcakbaaWGuard
import Derived.Test.YtbbboejcjcakbaaWNEv
import Derived.Test.YtbbboejcjcakbaaWMore
namespace Go.Proofs.Ytbbboejcjcakbaa.P
open Go.RowKit Go.Proofs.YtbbboejcjcakbaaW.PrintWords Go.Proofs.YtbbboejcjcakbaaW.PrintLast Go.Proofs.YtbbboejcjcakbaaW.PrintMore
attribute [local go_sem] max2_int min2_int max_two min_two max_three min_three max_four min_four   -- for this text's walks alone
set_option linter.unusedVariables false
set_option linter.unusedSimpArgs false



def errW : Option Int → Value
  | none => .nilIface
  | some c => .iface 0 (.int .i64 c)
theorem errW_none : errW none = .nilIface := rfl
theorem errW_some (c : Int) : errW (some c) = .iface 0 (.int .i64 c) := rfl

-- the values' own types

end Go.Proofs.Ytbbboejcjcakbaa.P
