/- Words of the print that this seat's texts use, the others left out; no conditions. Written by this session's own program (wip/xprint/trimw.py) out of what the kit's print wrote for this claim. -/
import Derived.Test.YtkebkghhncelpaaWWords
/-! ### 58. A guarded operation whose guard is known to want it: the same goal without the guard -/
namespace Go.Proofs.YtkebkghhncelpaaW.PrintWords
open Go.RowKit
section
variable {P : Program} {ops : Array Oper} {rest : List Oper} {o : Oper} {a : Act} {Q : Exit → Act → World → Prop} {W : World}
end
end Go.Proofs.YtkebkghhncelpaaW.PrintWords
