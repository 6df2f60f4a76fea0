/- What functions of the program compute, each with the walk that shows it: by a program (a turned copy of the kit's print; wip/myprint.py). -/
import Derived.Test.YtehaffldjnmblaaProg
import Derived.Below
import Derived.Deep.Draws
import Derived.Deep.AppendLies
import Derived.Maps.AppendAt
import Derived.OwnWalk
import Derived.Laws.BytesArg
import Derived.Laws.MakeOwn
import Derived.Laws.OwnMore
import Derived.Deep.OwnRows
import Derived.Tactics
import Derived.Lib.ConvBytes
import Derived.Laws.Slices
import Derived.WalkKit
import Derived.KernelRfl
import Derived.RowKit3
import Derived.Deep.LoopGhost
import Derived.Deep.QuietTactic
import Derived.BigQuiet
import Derived.WideLaws
import Derived.Deep.DeepCutAuto
import Derived.Deep.CutBlock
import Derived.Deep.RegionHeld3
import Derived.Laws.Rows
import Derived.Lib.AppendStr
import Derived.ArgAppend
import Derived.Laws.IdiomCopy
import Derived.OrdersHeld
import Derived.Laws.BitsLemmas
import Derived.RowKit
import Derived.Test.YtehaffldjnmblaaWWords
import Derived.Test.YtehaffldjnmblaaWLast
import Derived.Test.YtehaffldjnmblaaWTab
import Derived.Test.YtehaffldjnmblaaWFour
import Derived.Test.YtehaffldjnmblaaWQPut
import Derived.Test.YtehaffldjnmblaaWApart
import Derived.Test.YtehaffldjnmblaaWArr
import Derived.Test.YtehaffldjnmblaaWZeros
import Derived.Test.YtehaffldjnmblaaWFoot
import Derived.Test.YtehaffldjnmblaaWKept
import Derived.Test.YtehaffldjnmblaaWShare
import Derived.Test.YtehaffldjnmblaaWN
import Derived.Test.YtehaffldjnmblaaWFootNe
import Derived.Test.YtehaffldjnmblaaWAt
import Derived.Test.YtehaffldjnmblaaWEqStruct
import Derived.Test.YtehaffldjnmblaaWRepsOne
import Derived.Test.YtehaffldjnmblaaWInv
import Derived.Test.YtehaffldjnmblaaWInvWords
import Derived.Test.YtehaffldjnmblaaWGuard
import Derived.Test.YtehaffldjnmblaaWNEv
import Derived.Test.YtehaffldjnmblaaWMore
namespace Go.Proofs.Ytehaffldjnmblaa.P
open Go.RowKit Go.Proofs.YtehaffldjnmblaaW.PrintWords Go.Proofs.YtehaffldjnmblaaW.PrintLast Go.Proofs.YtehaffldjnmblaaW.PrintMore
attribute [local go_sem] max2_int min2_int max_two min_two max_three min_three max_four min_four   -- for this text's walks alone
set_option linter.unusedVariables false
set_option linter.unusedSimpArgs false



def errW : Option Int → Value
  | none => .nilIface
  | some c => .iface 0 (.int .i64 c)
theorem errW_none : errW none = .nilIface := rfl
theorem errW_some (c : Int) : errW (some c) = .iface 0 (.int .i64 c) := rfl

theorem info5 : (Try.prog.info? 5).map (fun i => (i.zero, i.size, i.bytes)) = some (some (.int .u8 0), 1, 1) := by kernel_rfl
-- the values' own types

end Go.Proofs.Ytehaffldjnmblaa.P
