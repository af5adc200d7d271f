/- Lean functions that answer as the Go functions do, and the proofs that they do; no conditions. Written by this session's own driver: a scratch copy of the kit's print with the session's additions (wip/xprint). -/
import Derived.Test.YtgmmbakfaoallaaProg
import Derived.Below
import Derived.Deep.Draws
import Derived.Deep.AppendLies
import Derived.Maps.AppendAt
import Derived.OwnWalk
import Derived.Laws.BytesArg
import Derived.Laws.MakeOwn
import Derived.Laws.OwnMore
import Derived.Deep.OwnRows
import Derived.Tactics
import Derived.Lib.ConvBytes
import Derived.Laws.Slices
import Derived.WalkKit
import Derived.KernelRfl
import Derived.RowKit3
import Derived.Deep.LoopGhost
import Derived.Deep.QuietTactic
import Derived.BigQuiet
import Derived.WideLaws
import Derived.Deep.DeepCutAuto
import Derived.Deep.CutBlock
import Derived.Deep.RegionHeld3
import Derived.Laws.Rows
import Derived.Lib.AppendStr
import Derived.ArgAppend
import Derived.Laws.IdiomCopy
import Derived.OrdersHeld
import Derived.Laws.BitsLemmas
import Derived.RowKit
import Derived.WalkMore
import Derived.Test.YtgmmbakfaoallaaWWords
import Derived.Test.YtgmmbakfaoallaaWLast
import Derived.Test.YtgmmbakfaoallaaWTab
import Derived.Test.YtgmmbakfaoallaaWFour
import Derived.Test.YtgmmbakfaoallaaWQPut
import Derived.Test.YtgmmbakfaoallaaWApart
import Derived.Test.YtgmmbakfaoallaaWArr
import Derived.Test.YtgmmbakfaoallaaWZeros
import Derived.Test.YtgmmbakfaoallaaWFoot
import Derived.Test.YtgmmbakfaoallaaWKept
import Derived.Test.YtgmmbakfaoallaaWShare
import Derived.Test.YtgmmbakfaoallaaWN
import Derived.Test.YtgmmbakfaoallaaWFootNe
import Derived.Test.YtgmmbakfaoallaaWAt
import Derived.Test.YtgmmbakfaoallaaWEqStruct
import Derived.Test.YtgmmbakfaoallaaWRepsOne
import Derived.Test.YtgmmbakfaoallaaWInv
import Derived.Test.YtgmmbakfaoallaaWInvWords
import Derived.Test.YtgmmbakfaoallaaWGuard
import Derived.Test.YtgmmbakfaoallaaWNEv
import Derived.Test.YtgmmbakfaoallaaWMore
namespace Go.Proofs.Ytgmmbakfaoallaa.A
open Go.RowKit Go.Proofs.YtgmmbakfaoallaaW.PrintWords Go.Proofs.YtgmmbakfaoallaaW.PrintLast Go.Proofs.YtgmmbakfaoallaaW.PrintMore
attribute [local go_sem] max2_int min2_int max_two min_two max_three min_three max_four min_four   -- for this text's walks alone
set_option linter.unusedVariables false
set_option linter.unusedSimpArgs false



def errW : Option Int → Value
  | none => .nilIface
  | some c => .iface 0 (.int .i64 c)
theorem errW_none : errW none = .nilIface := rfl
theorem errW_some (c : Int) : errW (some c) = .iface 0 (.int .i64 c) := rfl

theorem info3 : (Try.prog.info? 3).map (fun i => (i.zero, i.size, i.bytes)) = some (some (.int .i64 0), 1, 8) := by kernel_rfl
-- the values' own types

end Go.Proofs.Ytgmmbakfaoallaa.A
