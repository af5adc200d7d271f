/- Words of the print that this seat's texts use, the others left out; no conditions. Written by this session's own program (wip/xprint/trimw.py) out of what the kit's print wrote for this claim. -/
import Derived.Test.YtklnbfdoklcmfaaWInv
import Derived.Test.YtklnbfdoklcmfaaWFootNe
namespace Go.Proofs.YtklnbfdoklcmfaaW.PrintWords
open Go.RowKit
end Go.Proofs.YtklnbfdoklcmfaaW.PrintWords
namespace Go.Proofs.YtklnbfdoklcmfaaW.PrintLast
section
variable {ops : Array Oper} {a : Act} {o og : Oper} {g : Nat} {t : Tmp} {u : Bool}
end
end Go.Proofs.YtklnbfdoklcmfaaW.PrintLast
