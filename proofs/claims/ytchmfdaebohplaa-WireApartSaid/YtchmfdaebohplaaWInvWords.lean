/- Words of the print that this seat's texts use, the others left out; no conditions. Written by this session's own program (wip/xprint/trimw.py) out of what the kit's print wrote for this claim. -/
import Derived.Test.YtchmfdaebohplaaWInv
import Derived.Test.YtchmfdaebohplaaWFootNe
namespace Go.Proofs.YtchmfdaebohplaaW.PrintWords
open Go.RowKit
end Go.Proofs.YtchmfdaebohplaaW.PrintWords
namespace Go.Proofs.YtchmfdaebohplaaW.PrintLast
section
variable {ops : Array Oper} {a : Act} {o og : Oper} {g : Nat} {t : Tmp} {u : Bool}
end
end Go.Proofs.YtchmfdaebohplaaW.PrintLast
