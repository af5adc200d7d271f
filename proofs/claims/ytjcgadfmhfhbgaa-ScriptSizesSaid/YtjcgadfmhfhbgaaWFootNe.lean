/- Words of the print that this seat's texts use, the others left out; no conditions. Written by this session's own program (wip/xprint/trimw.py) out of what the kit's print wrote for this claim. -/
import Derived.Test.YtjcgadfmhfhbgaaWN
namespace Go.Proofs.YtjcgadfmhfhbgaaW.PrintWords
open Go.RowKit
namespace Kd
section
variable {α : Type} {d : Kd α} {W : World} {g n : Nat} {S ok : Nat → Prop} {A : Option Addr} {ad : Addr} {xs : List α}
end
end Kd
end Go.Proofs.YtjcgadfmhfhbgaaW.PrintWords
