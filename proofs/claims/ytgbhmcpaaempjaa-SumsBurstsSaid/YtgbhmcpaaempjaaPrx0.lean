-- Laid by wip/myprint.py (the kit's print.py with functions proved by hand put in): no print of print.sh. Not trusted: Lean checks it.
import Derived.Test.YtgbhmcpaaempjaaProg
import Derived.Below
import Derived.Deep.Draws
import Derived.Deep.AppendLies
import Derived.Maps.AppendAt
import Derived.OwnWalk
import Derived.Laws.BytesArg
import Derived.Laws.MakeOwn
import Derived.Laws.OwnMore
import Derived.Deep.OwnRows
import Derived.Tactics
import Derived.Lib.ConvBytes
import Derived.Laws.Slices
import Derived.WalkKit
import Derived.KernelRfl
import Derived.RowKit3
import Derived.Deep.LoopGhost
import Derived.Deep.QuietTactic
import Derived.BigQuiet
import Derived.WideLaws
import Derived.Deep.DeepCutAuto
import Derived.Deep.CutBlock
import Derived.Deep.RegionHeld3
import Derived.Laws.Rows
import Derived.Lib.AppendStr
import Derived.ArgAppend
import Derived.Laws.IdiomCopy
import Derived.OrdersHeld
import Derived.Laws.BitsLemmas
import Derived.RowKit
import Derived.Test.YtgbhmcpaaempjaaByte
import Derived.Lib.SmallJoins
import Derived.Test.YtgbhmcpaaempjaaWWords
import Derived.Test.YtgbhmcpaaempjaaWLast
import Derived.Test.YtgbhmcpaaempjaaWTab
import Derived.Test.YtgbhmcpaaempjaaWFour
import Derived.Test.YtgbhmcpaaempjaaWQPut
import Derived.Test.YtgbhmcpaaempjaaWApart
import Derived.Test.YtgbhmcpaaempjaaWArr
import Derived.Test.YtgbhmcpaaempjaaWZeros
import Derived.Test.YtgbhmcpaaempjaaWFoot
import Derived.Test.YtgbhmcpaaempjaaWKept
import Derived.Test.YtgbhmcpaaempjaaWShare
import Derived.Test.YtgbhmcpaaempjaaWN
import Derived.Test.YtgbhmcpaaempjaaWFootNe
import Derived.Test.YtgbhmcpaaempjaaWAt
import Derived.Test.YtgbhmcpaaempjaaWEqStruct
import Derived.Test.YtgbhmcpaaempjaaWRepsOne
import Derived.Test.YtgbhmcpaaempjaaWInv
import Derived.Test.YtgbhmcpaaempjaaWInvWords
import Derived.Test.YtgbhmcpaaempjaaWGuard
import Derived.Test.YtgbhmcpaaempjaaWNEv
import Derived.Test.YtgbhmcpaaempjaaWMore
namespace Go.Proofs.Ytgbhmcpaaempjaa.Pr
open Go.RowKit Go.Proofs.YtgbhmcpaaempjaaW.PrintWords Go.Proofs.YtgbhmcpaaempjaaW.PrintLast Go.Proofs.YtgbhmcpaaempjaaW.PrintMore
attribute [local go_sem] max2_int min2_int max_two min_two max_three min_three max_four min_four   -- for this text's walks alone
set_option linter.unusedVariables false
set_option linter.unusedSimpArgs false



def errW : Option Int → Value
  | none => .nilIface
  | some c => .iface 0 (.int .i64 c)
theorem errW_none : errW none = .nilIface := rfl
theorem errW_some (c : Int) : errW (some c) = .iface 0 (.int .i64 c) := rfl

theorem info5 : (Try.prog.info? 5).map (fun i => (i.zero, i.size, i.bytes)) = some (some (.int .u8 0), 1, 1) := by kernel_rfl
-- the values' own types

end Go.Proofs.Ytgbhmcpaaempjaa.Pr
