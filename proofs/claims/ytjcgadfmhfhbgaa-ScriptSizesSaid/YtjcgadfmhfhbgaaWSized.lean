/- Words of the print that this seat's texts use, the others left out; no conditions. Written by this session's own program (wip/xprint/trimw.py) out of what the kit's print wrote for this claim. -/
import Derived.SizedLaws
import Derived.ChangeSlices
namespace Go.Proofs.YtjcgadfmhfhbgaaW.PrintWords
open Go.ChangeShapes Go.WideShapes
end Go.Proofs.YtjcgadfmhfhbgaaW.PrintWords
