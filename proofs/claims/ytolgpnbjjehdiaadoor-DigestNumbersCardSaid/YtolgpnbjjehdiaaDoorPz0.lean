-- Written by a program of this session out of the translation (wip/pp: the kit's print, turned). Not trusted: Lean checks it.
import Derived.Test.YtolgpnbjjehdiaaDoorProg
import Derived.Below
import Derived.Deep.Draws
import Derived.Deep.AppendLies
import Derived.Maps.AppendAt
import Derived.OwnWalk
import Derived.Laws.BytesArg
import Derived.Laws.MakeOwn
import Derived.Laws.OwnMore
import Derived.Deep.OwnRows
import Derived.Tactics
import Derived.Lib.ConvBytes
import Derived.Laws.Slices
import Derived.WalkKit
import Derived.KernelRfl
import Derived.RowKit3
import Derived.Deep.LoopGhost
import Derived.Deep.QuietTactic
import Derived.BigQuiet
import Derived.WideLaws
import Derived.Deep.DeepCutAuto
import Derived.Deep.CutBlock
import Derived.Deep.RegionHeld3
import Derived.Laws.Rows
import Derived.Lib.AppendStr
import Derived.ArgAppend
import Derived.Laws.IdiomCopy
import Derived.OrdersHeld
import Derived.Laws.BitsLemmas
import Derived.RowKit
import Derived.Test.YtolgpnbjjehdiaaDoorWWords
import Derived.Test.YtolgpnbjjehdiaaDoorWLast
import Derived.Test.YtolgpnbjjehdiaaDoorWTab
import Derived.Test.YtolgpnbjjehdiaaDoorWFour
import Derived.Test.YtolgpnbjjehdiaaDoorWQPut
import Derived.Test.YtolgpnbjjehdiaaDoorWApart
import Derived.Test.YtolgpnbjjehdiaaDoorWArr
import Derived.Test.YtolgpnbjjehdiaaDoorWZeros
import Derived.Test.YtolgpnbjjehdiaaDoorWFoot
import Derived.Test.YtolgpnbjjehdiaaDoorWKept
import Derived.Test.YtolgpnbjjehdiaaDoorWShare
import Derived.Test.YtolgpnbjjehdiaaDoorWN
import Derived.Test.YtolgpnbjjehdiaaDoorWFootNe
import Derived.Test.YtolgpnbjjehdiaaDoorWAt
import Derived.Test.YtolgpnbjjehdiaaDoorWEqStruct
import Derived.Test.YtolgpnbjjehdiaaDoorWRepsOne
import Derived.Test.YtolgpnbjjehdiaaDoorWInv
import Derived.Test.YtolgpnbjjehdiaaDoorWInvWords
import Derived.Test.YtolgpnbjjehdiaaDoorWGuard
import Derived.Test.YtolgpnbjjehdiaaDoorWNEv
import Derived.Test.YtolgpnbjjehdiaaDoorWMore
namespace Go.Proofs.YtolgpnbjjehdiaaDoor.Z
open Go.RowKit Go.Proofs.YtolgpnbjjehdiaaDoorW.PrintWords Go.Proofs.YtolgpnbjjehdiaaDoorW.PrintLast Go.Proofs.YtolgpnbjjehdiaaDoorW.PrintMore
attribute [local go_sem] max2_int min2_int max_two min_two max_three min_three max_four min_four   -- for this text's walks alone
set_option linter.unusedVariables false
set_option linter.unusedSimpArgs false



def errW : Option Int → Value
 | none => .nilIface
 | some c => .iface 0 (.int .i64 c)
theorem errW_none : errW none = .nilIface := rfl
theorem errW_some (c : Int) : errW (some c) = .iface 0 (.int .i64 c) := rfl

theorem info25 : (Tryd.prog.info? 25).map (fun i => (i.zero, i.size, i.bytes)) = some (some (.int .u64 0), 1, 8) := by kernel_rfl
-- the values' own types

end Go.Proofs.YtolgpnbjjehdiaaDoor.Z
