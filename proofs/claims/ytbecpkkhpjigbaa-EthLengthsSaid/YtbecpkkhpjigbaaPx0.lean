/- What functions of the program compute, each with the walk that shows it: by a program (a turned copy of the kit's print; wip/myprint.py). -/
import Derived.Test.YtbecpkkhpjigbaaProg
import Derived.Below
import Derived.Deep.Draws
import Derived.Deep.AppendLies
import Derived.Maps.AppendAt
import Derived.OwnWalk
import Derived.Laws.BytesArg
import Derived.Laws.MakeOwn
import Derived.Laws.OwnMore
import Derived.Deep.OwnRows
import Derived.Tactics
import Derived.Lib.ConvBytes
import Derived.Laws.Slices
import Derived.WalkKit
import Derived.KernelRfl
import Derived.RowKit3
import Derived.Deep.LoopGhost
import Derived.Deep.QuietTactic
import Derived.BigQuiet
import Derived.WideLaws
import Derived.Deep.DeepCutAuto
import Derived.Deep.CutBlock
import Derived.Deep.RegionHeld3
import Derived.Laws.Rows
import Derived.Lib.AppendStr
import Derived.ArgAppend
import Derived.Laws.IdiomCopy
import Derived.OrdersHeld
import Derived.Laws.BitsLemmas
import Derived.RowKit
import Derived.Test.YtbecpkkhpjigbaaWWords
import Derived.Test.YtbecpkkhpjigbaaWLast
import Derived.Test.YtbecpkkhpjigbaaWTab
import Derived.Test.YtbecpkkhpjigbaaWFour
import Derived.Test.YtbecpkkhpjigbaaWQPut
import Derived.Test.YtbecpkkhpjigbaaWApart
import Derived.Test.YtbecpkkhpjigbaaWArr
import Derived.Test.YtbecpkkhpjigbaaWZeros
import Derived.Test.YtbecpkkhpjigbaaWFoot
import Derived.Test.YtbecpkkhpjigbaaWKept
import Derived.Test.YtbecpkkhpjigbaaWShare
import Derived.Test.YtbecpkkhpjigbaaWN
import Derived.Test.YtbecpkkhpjigbaaWFootNe
import Derived.Test.YtbecpkkhpjigbaaWAt
import Derived.Test.YtbecpkkhpjigbaaWEqStruct
import Derived.Test.YtbecpkkhpjigbaaWRepsOne
import Derived.Test.YtbecpkkhpjigbaaWInv
import Derived.Test.YtbecpkkhpjigbaaWInvWords
import Derived.Test.YtbecpkkhpjigbaaWGuard
import Derived.Test.YtbecpkkhpjigbaaWNEv
import Derived.Test.YtbecpkkhpjigbaaWMore
namespace Go.Proofs.Ytbecpkkhpjigbaa.P
open Go.RowKit Go.Proofs.YtbecpkkhpjigbaaW.PrintWords Go.Proofs.YtbecpkkhpjigbaaW.PrintLast Go.Proofs.YtbecpkkhpjigbaaW.PrintMore
attribute [local go_sem] max2_int min2_int max_two min_two max_three min_three max_four min_four   -- for this text's walks alone
set_option linter.unusedVariables false
set_option linter.unusedSimpArgs false



def errW : Option Int → Value
  | none => .nilIface
  | some c => .iface 0 (.int .i64 c)
theorem errW_none : errW none = .nilIface := rfl
theorem errW_some (c : Int) : errW (some c) = .iface 0 (.int .i64 c) := rfl

theorem info5 : (Try.prog.info? 5).map (fun i => (i.zero, i.size, i.bytes)) = some (some (.int .u8 0), 1, 1) := by kernel_rfl
-- the values' own types

end Go.Proofs.Ytbecpkkhpjigbaa.P
