/- Words of the print that this seat's texts use, the others left out; no conditions. Written by this session's own program (wip/xprint/trimw.py) out of what the kit's print wrote for this claim. -/
import Derived.Test.YtmolbbebglfhmaaWWords
import Derived.Laws.StructEq
namespace Go.Proofs.YtmolbbebglfhmaaW.PrintWords
open Go.RowKit
section
variable {P : Program} {d : Nat} {xs ys : Array Value} {f : Field} {fs : List Field} {a b : Value} {r s : Bool} {w : World}
end
end Go.Proofs.YtmolbbebglfhmaaW.PrintWords
