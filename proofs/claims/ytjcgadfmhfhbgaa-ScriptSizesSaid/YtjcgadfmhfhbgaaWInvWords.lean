/- Words of the print that this seat's texts use, the others left out; no conditions. Written by this session's own program (wip/xprint/trimw.py) out of what the kit's print wrote for this claim. -/
import Derived.Test.YtjcgadfmhfhbgaaWInv
import Derived.Test.YtjcgadfmhfhbgaaWFootNe
namespace Go.Proofs.YtjcgadfmhfhbgaaW.PrintWords
open Go.RowKit
end Go.Proofs.YtjcgadfmhfhbgaaW.PrintWords
namespace Go.Proofs.YtjcgadfmhfhbgaaW.PrintLast
section
variable {ops : Array Oper} {a : Act} {o og : Oper} {g : Nat} {t : Tmp} {u : Bool}
end
end Go.Proofs.YtjcgadfmhfhbgaaW.PrintLast
