/- Plain facts on packed numbers: what bytes say, and what a number's, and a list's, bytes are taken as; no conditions. -/
import Derived.Test.YtjcgadfmhfhbgaaTenA
import Derived.Lib.Bytes
import Derived.Test.YtjcgadfmhfhbgaaAx6
import Derived.Test.YtjcgadfmhfhbgaaAx8
import Derived.Test.YtjcgadfmhfhbgaaAx5
namespace Go.Proofs.Ytjcgadfmhfhbgaa.Plain
open Go.RowKit Go.Proofs.Ytjcgadfmhfhbgaa.A Go.Proofs.YtjcgadfmhfhbgaaW.PrintWords Go.Proofs.YtjcgadfmhfhbgaaW.PrintLast Go.Proofs.YtjcgadfmhfhbgaaW.PrintMore
set_option linter.unusedVariables false
set_option linter.unusedSimpArgs false
end Go.Proofs.Ytjcgadfmhfhbgaa.Plain
