/- What functions of the program compute, each with the walk that shows it: by a program (a turned copy of the kit's print; wip/myprint.py). -/
import Derived.Test.YtnckogdplcijiaaProg
import Derived.Below
import Derived.Deep.Draws
import Derived.Deep.AppendLies
import Derived.Maps.AppendAt
import Derived.OwnWalk
import Derived.Laws.BytesArg
import Derived.Laws.MakeOwn
import Derived.Laws.OwnMore
import Derived.Deep.OwnRows
import Derived.Tactics
import Derived.Lib.ConvBytes
import Derived.Laws.Slices
import Derived.WalkKit
import Derived.KernelRfl
import Derived.RowKit3
import Derived.Deep.LoopGhost
import Derived.Deep.QuietTactic
import Derived.BigQuiet
import Derived.WideLaws
import Derived.Deep.DeepCutAuto
import Derived.Deep.CutBlock
import Derived.Deep.RegionHeld3
import Derived.Laws.Rows
import Derived.Lib.AppendStr
import Derived.ArgAppend
import Derived.Laws.IdiomCopy
import Derived.OrdersHeld
import Derived.Laws.BitsLemmas
import Derived.RowKit
import Derived.Test.YtnckogdplcijiaaWWords
import Derived.Test.YtnckogdplcijiaaWLast
import Derived.Test.YtnckogdplcijiaaWTab
import Derived.Test.YtnckogdplcijiaaWFour
import Derived.Test.YtnckogdplcijiaaWQPut
import Derived.Test.YtnckogdplcijiaaWApart
import Derived.Test.YtnckogdplcijiaaWArr
import Derived.Test.YtnckogdplcijiaaWZeros
import Derived.Test.YtnckogdplcijiaaWFoot
import Derived.Test.YtnckogdplcijiaaWKept
import Derived.Test.YtnckogdplcijiaaWShare
import Derived.Test.YtnckogdplcijiaaWN
import Derived.Test.YtnckogdplcijiaaWFootNe
import Derived.Test.YtnckogdplcijiaaWAt
import Derived.Test.YtnckogdplcijiaaWEqStruct
import Derived.Test.YtnckogdplcijiaaWRepsOne
import Derived.Test.YtnckogdplcijiaaWInv
import Derived.Test.YtnckogdplcijiaaWInvWords
import Derived.Test.YtnckogdplcijiaaWGuard
import Derived.Test.YtnckogdplcijiaaWNEv
import Derived.Test.YtnckogdplcijiaaWMore
namespace Go.Proofs.Ytnckogdplcijiaa.P
open Go.RowKit Go.Proofs.YtnckogdplcijiaaW.PrintWords Go.Proofs.YtnckogdplcijiaaW.PrintLast Go.Proofs.YtnckogdplcijiaaW.PrintMore
attribute [local go_sem] max2_int min2_int max_two min_two max_three min_three max_four min_four   -- for this text's walks alone
set_option linter.unusedVariables false
set_option linter.unusedSimpArgs false



def errW : Option Int → Value
  | none => .nilIface
  | some c => .iface 0 (.int .i64 c)
theorem errW_none : errW none = .nilIface := rfl
theorem errW_some (c : Int) : errW (some c) = .iface 0 (.int .i64 c) := rfl

theorem info3 : (Try.prog.info? 3).map (fun i => (i.zero, i.size, i.bytes)) = some (some (.int .i64 0), 1, 8) := by kernel_rfl
theorem info5 : (Try.prog.info? 5).map (fun i => (i.zero, i.size, i.bytes)) = some (some (.int .u8 0), 1, 1) := by kernel_rfl
theorem info9 : (Try.prog.info? 9).map (fun i => (i.zero, i.size, i.bytes)) = some (some (.string ⟨#[]⟩), 1, 16) := by kernel_rfl
-- the values' own types

end Go.Proofs.Ytnckogdplcijiaa.P
