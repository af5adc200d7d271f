/- Lean functions that answer as the Go functions do, and the proofs that they do; no conditions. Written by this session's own driver: a scratch copy of the kit's print with the session's additions (wip/xprint). -/
import Derived.Test.YtkebkghhncelpaaProg
import Derived.Below
import Derived.Deep.Draws
import Derived.Deep.AppendLies
import Derived.Maps.AppendAt
import Derived.OwnWalk
import Derived.Laws.BytesArg
import Derived.Laws.MakeOwn
import Derived.Laws.OwnMore
import Derived.Deep.OwnRows
import Derived.Tactics
import Derived.Lib.ConvBytes
import Derived.Laws.Slices
import Derived.WalkKit
import Derived.KernelRfl
import Derived.RowKit3
import Derived.Deep.LoopGhost
import Derived.Deep.QuietTactic
import Derived.BigQuiet
import Derived.WideLaws
import Derived.Deep.DeepCutAuto
import Derived.Deep.CutBlock
import Derived.Deep.RegionHeld3
import Derived.Laws.Rows
import Derived.Lib.AppendStr
import Derived.ArgAppend
import Derived.Laws.IdiomCopy
import Derived.OrdersHeld
import Derived.Laws.BitsLemmas
import Derived.RowKit
import Derived.WalkMore
import Derived.Recover
import Derived.Deep.RegionWith
import Derived.OneCell
import Derived.Lib.SliceRun
import Derived.WalkSmall
import Derived.WalkSpells
import Derived.Laws.Externs
import Derived.Test.YtkebkghhncelpaaOwn
import Derived.Test.YtkebkghhncelpaaWWords
import Derived.Test.YtkebkghhncelpaaWLast
import Derived.Test.YtkebkghhncelpaaWTab
import Derived.Test.YtkebkghhncelpaaWFour
import Derived.Test.YtkebkghhncelpaaWQPut
import Derived.Test.YtkebkghhncelpaaWApart
import Derived.Test.YtkebkghhncelpaaWArr
import Derived.Test.YtkebkghhncelpaaWZeros
import Derived.Test.YtkebkghhncelpaaWFoot
import Derived.Test.YtkebkghhncelpaaWKept
import Derived.Test.YtkebkghhncelpaaWShare
import Derived.Test.YtkebkghhncelpaaWN
import Derived.Test.YtkebkghhncelpaaWFootNe
import Derived.Test.YtkebkghhncelpaaWAt
import Derived.Test.YtkebkghhncelpaaWEqStruct
import Derived.Test.YtkebkghhncelpaaWRepsOne
import Derived.Test.YtkebkghhncelpaaWInv
import Derived.Test.YtkebkghhncelpaaWInvWords
import Derived.Test.YtkebkghhncelpaaWGuard
import Derived.Test.YtkebkghhncelpaaWNEv
import Derived.Test.YtkebkghhncelpaaWMore
namespace Go.Proofs.Ytkebkghhncelpaa.A
open Go.RowKit Go.Proofs.YtkebkghhncelpaaW.PrintWords Go.Proofs.YtkebkghhncelpaaW.PrintLast Go.Proofs.YtkebkghhncelpaaW.PrintMore
attribute [local go_sem] max2_int min2_int max_two min_two max_three min_three max_four min_four   -- for this text's walks alone
set_option linter.unusedVariables false
set_option linter.unusedSimpArgs false



def errW : Option Int → Value
  | none => .nilIface
  | some c => .iface 0 (.int .i64 c)
theorem errW_none : errW none = .nilIface := rfl
theorem errW_some (c : Int) : errW (some c) = .iface 0 (.int .i64 c) := rfl

-- the values' own types

end Go.Proofs.Ytkebkghhncelpaa.A
