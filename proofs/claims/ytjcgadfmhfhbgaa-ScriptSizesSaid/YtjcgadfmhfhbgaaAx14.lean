/- Lean functions that answer as the Go functions do, and the proofs that they do; no conditions. Written by this session's own driver: a scratch copy of the kit's print with the session's additions (wip/xprint). -/
import Derived.Test.YtjcgadfmhfhbgaaAx0
import Derived.Test.YtjcgadfmhfhbgaaAx1
import Derived.Test.YtjcgadfmhfhbgaaAx12
import Derived.Test.YtjcgadfmhfhbgaaAx13
namespace Go.Proofs.Ytjcgadfmhfhbgaa.A
open Go.RowKit Go.Proofs.YtjcgadfmhfhbgaaW.PrintWords Go.Proofs.YtjcgadfmhfhbgaaW.PrintLast Go.Proofs.YtjcgadfmhfhbgaaW.PrintMore
attribute [local go_sem] max2_int min2_int max_two min_two max_three min_three max_four min_four
set_option linter.unusedVariables false
set_option linter.unusedSimpArgs false
attribute [local go_sem high] eqA28
def L14_0 : Array Bool := #[false, false, false, false, false, false, false, false, false, false, false, false]
def L14_1 : Array Bool := #[true, false, false, false, false, false, false, false, false, false, false, false]
def L14_2 : Array Bool := #[true, true, false, false, false, false, false, false, false, false, false, false]
def L14_3 : Array Bool := #[true, true, true, false, false, false, false, false, false, false, false, false]
def L14_4 : Array Bool := #[true, true, true, true, false, false, false, false, false, false, false, false]
def L14_5 : Array Bool := #[true, true, true, true, false, true, false, false, false, false, false, false]
def L14_6 : Array Bool := #[true, true, true, true, false, true, true, false, false, false, false, false]
def L14_7 : Array Bool := #[true, true, true, true, false, true, true, true, false, false, false, false]
def L14_8 : Array Bool := #[true, true, true, true, false, true, true, true, true, false, false, false]
def L14_9 : Array Bool := #[true, true, true, true, true, true, true, true, true, false, false, false]
def L14_10 : Array Bool := #[true, true, true, true, true, true, true, true, true, true, false, false]
def L14_11 : Array Bool := #[true, true, true, true, true, true, true, true, true, true, true, false]
def L14_12 : Array Bool := #[true, true, true, true, true, true, true, true, true, true, true, true]
def L14_13 : Array Bool := #[false, false, false, false, false, false, false, false, false, false, false, false, false, false, false, false, false, false, false, false, false, false, false, false, false, false, false, false, false, false, false, false, false, false, false, false, false, false, false, false, false, false, false, false, false, false, false, false, false, false, false, false, false, false, false, false, false, false, false, false, false, false, false, false, false, false, false, false, false, false, false]
def L14_14 : Array Bool := #[true, false, false, false, false, false, false, false, false, false, false, false, false, false, false, false, false, false, false, false, false, false, false, false, false, false, false, false, false, false, false, false, false, false, false, false, false, false, false, false, false, false, false, false, false, false, false, false, false, false, false, false, false, false, false, false, false, false, false, false, false, false, false, false, false, false, false, false, false, false, false]
def L14_15 : Array Bool := #[true, true, false, false, false, false, false, false, false, false, false, false, false, false, false, false, false, false, false, false, false, false, false, false, false, false, false, false, false, false, false, false, false, false, false, false, false, false, false, false, false, false, false, false, false, false, false, false, false, false, false, false, false, false, false, false, false, false, false, false, false, false, false, false, false, false, false, false, false, false, false]
def L14_16 : Array Bool := #[true, true, true, false, false, false, false, false, false, false, false, false, false, false, false, false, false, false, false, false, false, false, false, false, false, false, false, false, false, false, false, false, false, false, false, false, false, false, false, false, false, false, false, false, false, false, false, false, false, false, false, false, false, false, false, false, false, false, false, false, false, false, false, false, false, false, false, false, false, false, false]
def L14_17 : Array Bool := #[true, true, true, true, false, false, false, false, false, false, false, false, false, false, false, false, false, false, false, false, false, false, false, false, false, false, false, false, false, false, false, false, false, false, false, false, false, false, false, false, false, false, false, false, false, false, false, false, false, false, false, false, false, false, false, false, false, false, false, false, false, false, false, false, false, false, false, false, false, false, false]
def L14_18 : Array Bool := #[true, true, true, true, true, false, false, false, false, false, false, false, false, false, false, false, false, false, false, false, false, false, false, false, false, false, false, false, false, false, false, false, false, false, false, false, false, false, false, false, false, false, false, false, false, false, false, false, false, false, false, false, false, false, false, false, false, false, false, false, false, false, false, false, false, false, false, false, false, false, false]
def L14_19 : Array Bool := #[true, true, true, true, true, true, false, false, false, false, false, false, false, false, false, false, false, false, false, false, false, false, false, false, false, false, false, false, false, false, false, false, false, false, false, false, false, false, false, false, false, false, false, false, false, false, false, false, false, false, false, false, false, false, false, false, false, false, false, false, false, false, false, false, false, false, false, false, false, false, false]
def L14_20 : Array Bool := #[true, true, true, true, true, true, true, false, false, false, false, false, false, false, false, false, false, false, false, false, false, false, false, false, false, false, false, false, false, false, false, false, false, false, false, false, false, false, false, false, false, false, false, false, false, false, false, false, false, false, false, false, false, false, false, false, false, false, false, false, false, false, false, false, false, false, false, false, false, false, false]
def L14_21 : Array Bool := #[true, true, true, true, true, true, true, true, false, false, false, false, false, false, false, false, false, false, false, false, false, false, false, false, false, false, false, false, false, false, false, false, false, false, false, false, false, false, false, false, false, false, false, false, false, false, false, false, false, false, false, false, false, false, false, false, false, false, false, false, false, false, false, false, false, false, false, false, false, false, false]
def L14_22 : Array Bool := #[true, true, true, true, true, true, true, true, true, false, false, false, false, false, false, false, false, false, false, false, false, false, false, false, false, false, false, false, false, false, false, false, false, false, false, false, false, false, false, false, false, false, false, false, false, false, false, false, false, false, false, false, false, false, false, false, false, false, false, false, false, false, false, false, false, false, false, false, false, false, false]
def L14_23 : Array Bool := #[true, true, true, true, true, true, true, true, true, true, false, false, false, false, false, false, false, false, false, false, false, false, false, false, false, false, false, false, false, false, false, false, false, false, false, false, false, false, false, false, false, false, false, false, false, false, false, false, false, false, false, false, false, false, false, false, false, false, false, false, false, false, false, false, false, false, false, false, false, false, false]
def L14_24 : Array Bool := #[true, true, true, true, true, true, true, true, true, true, true, false, false, false, false, false, false, false, false, false, false, false, false, false, false, false, false, false, false, false, false, false, false, false, false, false, false, false, false, false, false, false, false, false, false, false, false, false, false, false, false, false, false, false, false, false, false, false, false, false, false, false, false, false, false, false, false, false, false, false, false]
def L14_25 : Array Bool := #[true, true, true, true, true, true, true, true, true, true, true, false, true, false, false, false, false, false, false, false, false, false, false, false, false, false, false, false, false, false, false, false, false, false, false, false, false, false, false, false, false, false, false, false, false, false, false, false, false, false, false, false, false, false, false, false, false, false, false, false, false, false, false, false, false, false, false, false, false, false, false]
def L14_26 : Array Bool := #[true, true, true, true, true, true, true, true, true, true, true, false, true, true, false, false, false, false, false, false, false, false, false, false, false, false, false, false, false, false, false, false, false, false, false, false, false, false, false, false, false, false, false, false, false, false, false, false, false, false, false, false, false, false, false, false, false, false, false, false, false, false, false, false, false, false, false, false, false, false, false]
def L14_27 : Array Bool := #[true, true, true, true, true, true, true, true, true, true, true, false, true, true, true, false, false, false, false, false, false, false, false, false, false, false, false, false, false, false, false, false, false, false, false, false, false, false, false, false, false, false, false, false, false, false, false, false, false, false, false, false, false, false, false, false, false, false, false, false, false, false, false, false, false, false, false, false, false, false, false]
def L14_28 : Array Bool := #[true, true, true, true, true, true, true, true, true, true, true, false, true, true, true, true, false, false, false, false, false, false, false, false, false, false, false, false, false, false, false, false, false, false, false, false, false, false, false, false, false, false, false, false, false, false, false, false, false, false, false, false, false, false, false, false, false, false, false, false, false, false, false, false, false, false, false, false, false, false, false]
def L14_29 : Array Bool := #[true, true, true, true, true, true, true, true, true, true, true, true, true, true, true, true, false, false, false, false, false, false, false, false, false, false, false, false, false, false, false, false, false, false, false, false, false, false, false, false, false, false, false, false, false, false, false, false, false, false, false, false, false, false, false, false, false, false, false, false, false, false, false, false, false, false, false, false, false, false, false]
def L14_30 : Array Bool := #[true, true, true, true, true, true, true, true, true, true, true, true, true, true, true, true, true, false, false, false, false, false, false, false, false, false, false, false, false, false, false, false, false, false, false, false, false, false, false, false, false, false, false, false, false, false, false, false, false, false, false, false, false, false, false, false, false, false, false, false, false, false, false, false, false, false, false, false, false, false, false]
def L14_31 : Array Bool := #[true, true, true, true, true, true, true, true, true, true, true, true, true, true, true, true, true, true, false, false, false, false, false, false, false, false, false, false, false, false, false, false, false, false, false, false, false, false, false, false, false, false, false, false, false, false, false, false, false, false, false, false, false, false, false, false, false, false, false, false, false, false, false, false, false, false, false, false, false, false, false]
def L14_32 : Array Bool := #[true, true, true, true, true, true, true, true, true, true, true, true, true, true, true, true, true, true, true, false, false, false, false, false, false, false, false, false, false, false, false, false, false, false, false, false, false, false, false, false, false, false, false, false, false, false, false, false, false, false, false, false, false, false, false, false, false, false, false, false, false, false, false, false, false, false, false, false, false, false, false]
def L14_33 : Array Bool := #[true, true, true, true, true, true, true, true, true, true, true, true, true, true, true, true, true, true, true, true, false, false, false, false, false, false, false, false, false, false, false, false, false, false, false, false, false, false, false, false, false, false, false, false, false, false, false, false, false, false, false, false, false, false, false, false, false, false, false, false, false, false, false, false, false, false, false, false, false, false, false]
def L14_34 : Array Bool := #[true, true, true, true, true, true, true, true, true, true, true, true, true, true, true, true, true, true, true, true, true, false, false, false, false, false, false, false, false, false, false, false, false, false, false, false, false, false, false, false, false, false, false, false, false, false, false, false, false, false, false, false, false, false, false, false, false, false, false, false, false, false, false, false, false, false, false, false, false, false, false]
def L14_35 : Array Bool := #[true, true, true, true, true, true, true, true, true, true, true, true, true, true, true, true, true, true, true, true, true, true, false, false, false, false, false, false, false, false, false, false, false, false, false, false, false, false, false, false, false, false, false, false, false, false, false, false, false, false, false, false, false, false, false, false, false, false, false, false, false, false, false, false, false, false, false, false, false, false, false]
def L14_36 : Array Bool := #[true, true, true, true, true, true, true, true, true, true, true, true, true, true, true, true, true, true, true, true, true, true, true, false, false, false, false, false, false, false, false, false, false, false, false, false, false, false, false, false, false, false, false, false, false, false, false, false, false, false, false, false, false, false, false, false, false, false, false, false, false, false, false, false, false, false, false, false, false, false, false]
def L14_37 : Array Bool := #[true, true, true, true, true, true, true, true, true, true, true, true, true, true, true, true, true, true, true, true, true, true, true, true, false, false, false, false, false, false, false, false, false, false, false, false, false, false, false, false, false, false, false, false, false, false, false, false, false, false, false, false, false, false, false, false, false, false, false, false, false, false, false, false, false, false, false, false, false, false, false]
def L14_38 : Array Bool := #[true, true, true, true, true, true, true, true, true, true, true, true, true, true, true, true, true, true, true, true, true, true, true, true, false, true, false, false, false, false, false, false, false, false, false, false, false, false, false, false, false, false, false, false, false, false, false, false, false, false, false, false, false, false, false, false, false, false, false, false, false, false, false, false, false, false, false, false, false, false, false]
def L14_39 : Array Bool := #[true, true, true, true, true, true, true, true, true, true, true, true, true, true, true, true, true, true, true, true, true, true, true, true, false, true, true, false, false, false, false, false, false, false, false, false, false, false, false, false, false, false, false, false, false, false, false, false, false, false, false, false, false, false, false, false, false, false, false, false, false, false, false, false, false, false, false, false, false, false, false]
def L14_40 : Array Bool := #[true, true, true, true, true, true, true, true, true, true, true, true, true, true, true, true, true, true, true, true, true, true, true, true, false, true, true, true, false, false, false, false, false, false, false, false, false, false, false, false, false, false, false, false, false, false, false, false, false, false, false, false, false, false, false, false, false, false, false, false, false, false, false, false, false, false, false, false, false, false, false]
def L14_41 : Array Bool := #[true, true, true, true, true, true, true, true, true, true, true, true, true, true, true, true, true, true, true, true, true, true, true, true, false, true, true, true, true, false, false, false, false, false, false, false, false, false, false, false, false, false, false, false, false, false, false, false, false, false, false, false, false, false, false, false, false, false, false, false, false, false, false, false, false, false, false, false, false, false, false]
def L14_42 : Array Bool := #[true, true, true, true, true, true, true, true, true, true, true, true, true, true, true, true, true, true, true, true, true, true, true, true, true, true, true, true, true, false, false, false, false, false, false, false, false, false, false, false, false, false, false, false, false, false, false, false, false, false, false, false, false, false, false, false, false, false, false, false, false, false, false, false, false, false, false, false, false, false, false]
def L14_43 : Array Bool := #[true, true, true, true, true, true, true, true, true, true, true, true, true, true, true, true, true, true, true, true, true, true, true, true, true, true, true, true, true, true, false, false, false, false, false, false, false, false, false, false, false, false, false, false, false, false, false, false, false, false, false, false, false, false, false, false, false, false, false, false, false, false, false, false, false, false, false, false, false, false, false]
def L14_44 : Array Bool := #[true, true, true, true, true, true, true, true, true, true, true, true, true, true, true, true, true, true, true, true, true, true, true, true, true, true, true, true, true, true, true, false, false, false, false, false, false, false, false, false, false, false, false, false, false, false, false, false, false, false, false, false, false, false, false, false, false, false, false, false, false, false, false, false, false, false, false, false, false, false, false]
def L14_45 : Array Bool := #[true, true, true, true, true, true, true, true, true, true, true, true, true, true, true, true, true, true, true, true, true, true, true, true, true, true, true, true, true, true, true, true, false, false, false, false, false, false, false, false, false, false, false, false, false, false, false, false, false, false, false, false, false, false, false, false, false, false, false, false, false, false, false, false, false, false, false, false, false, false, false]
def L14_46 : Array Bool := #[true, true, true, true, true, true, true, true, true, true, true, true, true, true, true, true, true, true, true, true, true, true, true, true, true, true, true, true, true, true, true, true, true, false, false, false, false, false, false, false, false, false, false, false, false, false, false, false, false, false, false, false, false, false, false, false, false, false, false, false, false, false, false, false, false, false, false, false, false, false, false]
def L14_47 : Array Bool := #[true, true, true, true, true, true, true, true, true, true, true, true, true, true, true, true, true, true, true, true, true, true, true, true, true, true, true, true, true, true, true, true, true, true, false, false, false, false, false, false, false, false, false, false, false, false, false, false, false, false, false, false, false, false, false, false, false, false, false, false, false, false, false, false, false, false, false, false, false, false, false]
def L14_48 : Array Bool := #[true, true, true, true, true, true, true, true, true, true, true, true, true, true, true, true, true, true, true, true, true, true, true, true, true, true, true, true, true, true, true, true, true, true, true, false, false, false, false, false, false, false, false, false, false, false, false, false, false, false, false, false, false, false, false, false, false, false, false, false, false, false, false, false, false, false, false, false, false, false, false]
def L14_49 : Array Bool := #[true, true, true, true, true, true, true, true, true, true, true, true, true, true, true, true, true, true, true, true, true, true, true, true, true, true, true, true, true, true, true, true, true, true, true, true, false, false, false, false, false, false, false, false, false, false, false, false, false, false, false, false, false, false, false, false, false, false, false, false, false, false, false, false, false, false, false, false, false, false, false]
def L14_50 : Array Bool := #[true, true, true, true, true, true, true, true, true, true, true, true, true, true, true, true, true, true, true, true, true, true, true, true, true, true, true, true, true, true, true, true, true, true, true, true, true, false, false, false, false, false, false, false, false, false, false, false, false, false, false, false, false, false, false, false, false, false, false, false, false, false, false, false, false, false, false, false, false, false, false]
def L14_51 : Array Bool := #[true, true, true, true, true, true, true, true, true, true, true, true, true, true, true, true, true, true, true, true, true, true, true, true, true, true, true, true, true, true, true, true, true, true, true, true, true, false, true, false, false, false, false, false, false, false, false, false, false, false, false, false, false, false, false, false, false, false, false, false, false, false, false, false, false, false, false, false, false, false, false]
def L14_52 : Array Bool := #[true, true, true, true, true, true, true, true, true, true, true, true, true, true, true, true, true, true, true, true, true, true, true, true, true, true, true, true, true, true, true, true, true, true, true, true, true, false, true, true, false, false, false, false, false, false, false, false, false, false, false, false, false, false, false, false, false, false, false, false, false, false, false, false, false, false, false, false, false, false, false]
def L14_53 : Array Bool := #[true, true, true, true, true, true, true, true, true, true, true, true, true, true, true, true, true, true, true, true, true, true, true, true, true, true, true, true, true, true, true, true, true, true, true, true, true, false, true, true, true, false, false, false, false, false, false, false, false, false, false, false, false, false, false, false, false, false, false, false, false, false, false, false, false, false, false, false, false, false, false]
def L14_54 : Array Bool := #[true, true, true, true, true, true, true, true, true, true, true, true, true, true, true, true, true, true, true, true, true, true, true, true, true, true, true, true, true, true, true, true, true, true, true, true, true, false, true, true, true, true, false, false, false, false, false, false, false, false, false, false, false, false, false, false, false, false, false, false, false, false, false, false, false, false, false, false, false, false, false]
def L14_55 : Array Bool := #[true, true, true, true, true, true, true, true, true, true, true, true, true, true, true, true, true, true, true, true, true, true, true, true, true, true, true, true, true, true, true, true, true, true, true, true, true, true, true, true, true, true, false, false, false, false, false, false, false, false, false, false, false, false, false, false, false, false, false, false, false, false, false, false, false, false, false, false, false, false, false]
def L14_56 : Array Bool := #[true, true, true, true, true, true, true, true, true, true, true, true, true, true, true, true, true, true, true, true, true, true, true, true, true, true, true, true, true, true, true, true, true, true, true, true, true, true, true, true, true, true, true, false, false, false, false, false, false, false, false, false, false, false, false, false, false, false, false, false, false, false, false, false, false, false, false, false, false, false, false]
def L14_57 : Array Bool := #[true, true, true, true, true, true, true, true, true, true, true, true, true, true, true, true, true, true, true, true, true, true, true, true, true, true, true, true, true, true, true, true, true, true, true, true, true, true, true, true, true, true, true, true, false, false, false, false, false, false, false, false, false, false, false, false, false, false, false, false, false, false, false, false, false, false, false, false, false, false, false]
def L14_58 : Array Bool := #[true, true, true, true, true, true, true, true, true, true, true, true, true, true, true, true, true, true, true, true, true, true, true, true, true, true, true, true, true, true, true, true, true, true, true, true, true, true, true, true, true, true, true, true, true, false, false, false, false, false, false, false, false, false, false, false, false, false, false, false, false, false, false, false, false, false, false, false, false, false, false]
def L14_59 : Array Bool := #[true, true, true, true, true, true, true, true, true, true, true, true, true, true, true, true, true, true, true, true, true, true, true, true, true, true, true, true, true, true, true, true, true, true, true, true, true, true, true, true, true, true, true, true, true, true, false, false, false, false, false, false, false, false, false, false, false, false, false, false, false, false, false, false, false, false, false, false, false, false, false]
def L14_60 : Array Bool := #[true, true, true, true, true, true, true, true, true, true, true, true, true, true, true, true, true, true, true, true, true, true, true, true, true, true, true, true, true, true, true, true, true, true, true, true, true, true, true, true, true, true, true, true, true, true, true, true, true, true, true, true, true, true, true, true, true, false, false, false, false, false, false, false, false, false, false, false, false, false, false]
def L14_61 : Array Bool := #[true, true, true, true, true, true, true, true, true, true, true, true, true, true, true, true, true, true, true, true, true, true, true, true, true, true, true, true, true, true, true, true, true, true, true, true, true, true, true, true, true, true, true, true, true, true, true, true, true, true, true, true, true, true, true, true, true, true, false, false, false, false, false, false, false, false, false, false, false, false, false]
def L14_62 : Array Bool := #[true, true, true, true, true, true, true, true, true, true, true, true, true, true, true, true, true, true, true, true, true, true, true, true, true, true, true, true, true, true, true, true, true, true, true, true, true, true, true, true, true, true, true, true, true, true, true, true, true, true, true, true, true, true, true, true, true, true, true, false, false, false, false, false, false, false, false, false, false, false, false]
def L14_63 : Array Bool := #[true, true, true, true, true, true, true, true, true, true, true, true, true, true, true, true, true, true, true, true, true, true, true, true, true, true, true, true, true, true, true, true, true, true, true, true, true, true, true, true, true, true, true, true, true, true, true, true, true, true, true, true, true, true, true, true, true, true, true, true, true, true, true, true, true, true, true, true, true, true, false]
def L14_64 : Array Bool := #[true, true, true, true, true, true, true, true, true, true, true, true, true, true, true, true, true, true, true, true, true, true, true, true, true, true, true, true, true, true, true, true, true, true, true, true, true, true, true, true, true, true, true, true, true, true, true, true, true, true, true, true, true, true, true, true, true, true, true, true, true, true, true, true, true, true, true, true, true, true, true]
def L14_65 : Array Bool := #[true, true, true, true, true, true, true, true, true, true, true, true, true, true, true, true, true, true, true, true, true, true, true, true, true, true, true, true, true, true, true, true, true, true, true, true, true, true, true, true, true, true, true, true, true, true, true, false, false, false, false, false, false, false, false, false, false, false, false, false, false, false, false, false, false, false, false, false, false, false, false]
def L14_66 : Array Bool := #[true, true, true, true, true, true, true, true, true, true, true, true, true, true, true, true, true, true, true, true, true, true, true, true, true, true, true, true, true, true, true, true, true, true, true, true, true, true, true, true, true, true, true, true, true, true, true, true, false, false, false, false, false, false, false, false, false, false, false, false, false, false, false, false, false, false, false, false, false, false, false]
def L14_67 : Array Bool := #[true, true, true, true, true, true, true, true, true, true, true, true, true, true, true, true, true, true, true, true, true, true, true, true, true, true, true, true, true, true, true, true, true, true, true, true, true, true, true, true, true, true, true, true, true, true, true, true, true, false, false, false, false, false, false, false, false, false, false, false, false, false, false, false, false, false, false, false, false, false, false]
def L14_68 : Array Bool := #[true, true, true, true, true, true, true, true, true, true, true, true, true, true, true, true, true, true, true, true, true, true, true, true, true, true, true, true, true, true, true, true, true, true, true, true, true, true, true, true, true, true, true, true, true, true, true, true, true, true, false, false, false, false, false, false, false, false, false, false, false, false, false, false, false, false, false, false, false, false, false]
def L14_69 : Array Bool := #[true, true, true, true, true, true, true, true, true, true, true, true, true, true, true, true, true, true, true, true, true, true, true, true, true, true, true, true, true, true, true, true, true, true, true, true, true, true, true, true, true, true, true, true, true, true, true, true, true, true, false, true, false, false, false, false, false, false, false, false, false, false, false, false, false, false, false, false, false, false, false]
def L14_70 : Array Bool := #[true, true, true, true, true, true, true, true, true, true, true, true, true, true, true, true, true, true, true, true, true, true, true, true, true, true, true, true, true, true, true, true, true, true, true, true, true, true, true, true, true, true, true, true, true, true, true, true, true, true, false, true, true, false, false, false, false, false, false, false, false, false, false, false, false, false, false, false, false, false, false]
def L14_71 : Array Bool := #[true, true, true, true, true, true, true, true, true, true, true, true, true, true, true, true, true, true, true, true, true, true, true, true, true, true, true, true, true, true, true, true, true, true, true, true, true, true, true, true, true, true, true, true, true, true, true, true, true, true, false, true, true, true, false, false, false, false, false, false, false, false, false, false, false, false, false, false, false, false, false]
def L14_72 : Array Bool := #[true, true, true, true, true, true, true, true, true, true, true, true, true, true, true, true, true, true, true, true, true, true, true, true, true, true, true, true, true, true, true, true, true, true, true, true, true, true, true, true, true, true, true, true, true, true, true, true, true, true, false, true, true, true, true, false, false, false, false, false, false, false, false, false, false, false, false, false, false, false, false]
def L14_73 : Array Bool := #[true, true, true, true, true, true, true, true, true, true, true, true, true, true, true, true, true, true, true, true, true, true, true, true, true, true, true, true, true, true, true, true, true, true, true, true, true, true, true, true, true, true, true, true, true, true, true, true, true, true, true, true, true, true, true, false, false, false, false, false, false, false, false, false, false, false, false, false, false, false, false]
def L14_74 : Array Bool := #[true, true, true, true, true, true, true, true, true, true, true, true, true, true, true, true, true, true, true, true, true, true, true, true, true, true, true, true, true, true, true, true, true, true, true, true, true, true, true, true, true, true, true, true, true, true, true, true, true, true, true, true, true, true, true, true, false, false, false, false, false, false, false, false, false, false, false, false, false, false, false]
def L14_75 : Array Bool := #[true, true, true, true, true, true, true, true, true, true, true, true, true, true, true, true, true, true, true, true, true, true, true, true, true, true, true, true, true, true, true, true, true, true, true, true, true, true, true, true, true, true, true, true, true, true, true, true, true, true, true, true, true, true, true, true, true, true, true, true, false, false, false, false, false, false, false, false, false, false, false]
def L14_76 : Array Bool := #[true, true, true, true, true, true, true, true, true, true, true, true, true, true, true, true, true, true, true, true, true, true, true, true, true, true, true, true, true, true, true, true, true, true, true, true, true, true, true, true, true, true, true, true, true, true, true, true, true, true, true, true, true, true, true, true, true, true, true, true, true, false, false, false, false, false, false, false, false, false, false]
def L14_77 : Array Bool := #[true, true, true, true, true, true, true, true, true, true, true, true, true, true, true, true, true, true, true, true, true, true, true, true, true, true, true, true, true, true, true, true, true, true, true, true, true, true, true, true, true, true, true, true, true, true, true, true, true, true, true, true, true, true, true, true, true, true, true, true, true, true, false, false, false, false, false, false, false, false, false]
def L14_78 : Array Bool := #[true, true, true, true, true, true, true, true, true, true, true, true, true, true, true, true, true, true, true, true, true, true, true, true, true, true, true, true, true, true, true, true, true, true, true, true, true, true, true, true, true, true, true, true, true, true, true, true, true, true, true, true, true, true, true, true, true, true, true, true, true, true, true, false, false, false, false, false, false, false, false]
def L14_79 : Array Bool := #[true, true, true, true, true, true, true, true, true, true, true, true, true, true, true, true, true, true, true, true, true, true, true, true, true, true, true, true, true, true, true, true, true, true, true, true, true, true, true, true, true, true, true, true, true, true, true, true, true, true, true, true, true, true, true, true, true, true, true, true, true, true, true, false, true, false, false, false, false, false, false]
def L14_80 : Array Bool := #[true, true, true, true, true, true, true, true, true, true, true, true, true, true, true, true, true, true, true, true, true, true, true, true, true, true, true, true, true, true, true, true, true, true, true, true, true, true, true, true, true, true, true, true, true, true, true, true, true, true, true, true, true, true, true, true, true, true, true, true, true, true, true, false, true, true, false, false, false, false, false]
def L14_81 : Array Bool := #[true, true, true, true, true, true, true, true, true, true, true, true, true, true, true, true, true, true, true, true, true, true, true, true, true, true, true, true, true, true, true, true, true, true, true, true, true, true, true, true, true, true, true, true, true, true, true, true, true, true, true, true, true, true, true, true, true, true, true, true, true, true, true, false, true, true, true, false, false, false, false]
def L14_82 : Array Bool := #[true, true, true, true, true, true, true, true, true, true, true, true, true, true, true, true, true, true, true, true, true, true, true, true, true, true, true, true, true, true, true, true, true, true, true, true, true, true, true, true, true, true, true, true, true, true, true, true, true, true, true, true, true, true, true, true, true, true, true, true, true, true, true, false, true, true, true, true, false, false, false]
def L14_83 : Array Bool := #[true, true, true, true, true, true, true, true, true, true, true, true, true, true, true, true, true, true, true, true, true, true, true, true, true, true, true, true, true, true, true, true, true, true, true, true, true, true, true, true, true, true, true, true, true, true, true, true, true, true, true, true, true, true, true, true, true, true, true, true, true, true, true, true, true, true, true, true, false, false, false]
def L14_84 : Array Bool := #[true, true, true, true, true, true, true, true, true, true, true, true, true, true, true, true, true, true, true, true, true, true, true, true, true, true, true, true, true, true, true, true, true, true, true, true, true, true, true, true, true, true, true, true, true, true, true, true, true, true, true, true, true, true, true, true, true, true, true, true, true, true, true, true, true, true, true, true, true, false, false]
mutual
def fullerref23_Same.l0 : Nat → List (S30) → List (S30) → Int → Option (Bool)
 | 0, _, _, _ => none
 | k + 1, x0, x1, x5 => if x5 < (x0.length : Int) then (if 0 ≤ x5 then (if x5 < (x1.length : Int) then ((fullerref10_Same.f k ((rd_T30 x0 x5).f2) ((rd_T30 x1 x5).f2)).bind fun t204 => ((fullerref03_Same.f k ((rd_T30 x0 x5).f3.f0) ((rd_T30 x0 x5).f3.f1) ((rd_T30 x1 x5).f3.f0) ((rd_T30 x1 x5).f3.f1)).bind fun t207 => (if t204 = true then (if t207 = true then (if ((rd_T30 x0 x5).f0) = ((rd_T30 x1 x5).f0) then (if ((rd_T30 x0 x5).f1) = ((rd_T30 x1 x5).f1) then (if (!(((rd_T30 x0 x5).f4.f0) == ((rd_T30 x1 x5).f4.f0)) || (!(((rd_T30 x0 x5).f4.f1) == ((rd_T30 x1 x5).f4.f1)) || (!(((rd_T30 x0 x5).f4.f2) == ((rd_T30 x1 x5).f4.f2)) || (!(((rd_T30 x0 x5).f4.f3) == ((rd_T30 x1 x5).f4.f3)))))) = true then (fullerref23_Same.j1 k x0 x1 x5 true) else (if ((rd_T30 x0 x5).f5) = ((rd_T30 x1 x5).f5) then (fullerref23_Same.j1 k x0 x1 x5 (((rd_T30 x0 x5).f6) != ((rd_T30 x1 x5).f6))) else (fullerref23_Same.j1 k x0 x1 x5 true))) else (fullerref23_Same.j1 k x0 x1 x5 true)) else (fullerref23_Same.j1 k x0 x1 x5 true)) else (fullerref23_Same.j1 k x0 x1 x5 true)) else (fullerref23_Same.j1 k x0 x1 x5 true)))) else (none)) else (none)) else (some true)
def fullerref23_Same.j1 : Nat → List (S30) → List (S30) → Int → Bool → Option (Bool)
 | 0, _, _, _, _ => none
 | k + 1, x0, x1, x5, x111 => if x111 = true then (some false) else (fullerref23_Same.l0 k x0 x1 (wrap64 (x5 + 1)))
end
def fullerref23_Same.f (k : Nat) (l0 : List (S30)) (l1 : List (S30)) : Option (Bool) := if (l0.length : Int) = (l1.length : Int) then (fullerref23_Same.l0 k l0 l1 0) else (some false)
theorem fullerref23_Same.mono_l : ∀ k, (∀ y0 y1 y2, LeO (fullerref23_Same.l0 k y0 y1 y2) (fullerref23_Same.l0 (k + 1) y0 y1 y2)) ∧ (∀ y0 y1 y2 y3, LeO (fullerref23_Same.j1 k y0 y1 y2 y3) (fullerref23_Same.j1 (k + 1) y0 y1 y2 y3))
 | 0 => ⟨fun _ _ _ r h => by simp [fullerref23_Same.l0] at h, fun _ _ _ _ r h => by simp [fullerref23_Same.j1] at h⟩
 | k + 1 => by
  obtain ⟨ih0, ih1⟩ := fullerref23_Same.mono_l k
  refine ⟨?_, ?_⟩
  ·intro y0 y1 y2
   unfold fullerref23_Same.l0
   repeat' first
    | (with_reducible first | exact ih0 _ _ _ | exact ih1 _ _ _ _ | exact fullerref03_Same.mono _ _ _ _ _ | exact fullerref10_Same.mono _ _ _ | exact LeO.refl _ | exact LeO.none _ | refine LeO.ite ?_ ?_ | refine LeO.bind ?_ (fun _ => ?_))
    | first | exact ih0 _ _ _ | exact ih1 _ _ _ _ | exact fullerref03_Same.mono _ _ _ _ _ | exact fullerref10_Same.mono _ _ _ | exact LeO.none _ | refine LeO.ite ?_ ?_ | refine LeO.bind ?_ (fun _ => ?_)
  ·intro y0 y1 y2 y3
   unfold fullerref23_Same.j1
   repeat' first
    | (with_reducible first | exact ih0 _ _ _ | exact ih1 _ _ _ _ | exact fullerref03_Same.mono _ _ _ _ _ | exact fullerref10_Same.mono _ _ _ | exact LeO.refl _ | exact LeO.none _ | refine LeO.ite ?_ ?_ | refine LeO.bind ?_ (fun _ => ?_))
    | first | exact ih0 _ _ _ | exact ih1 _ _ _ _ | exact fullerref03_Same.mono _ _ _ _ _ | exact fullerref10_Same.mono _ _ _ | exact LeO.none _ | refine LeO.ite ?_ ?_ | refine LeO.bind ?_ (fun _ => ?_)
theorem fullerref23_Same.mono : ∀ a0 a1 k, LeO (fullerref23_Same.f k a0 a1) (fullerref23_Same.f (k + 1) a0 a1) := by
 intro a0 a1 k
 obtain ⟨ih0, ih1⟩ := fullerref23_Same.mono_l k
 unfold fullerref23_Same.f
 repeat' first
  | (with_reducible first | exact ih0 _ _ _ | exact ih1 _ _ _ _ | exact fullerref03_Same.mono _ _ _ _ _ | exact fullerref10_Same.mono _ _ _ | exact LeO.refl _ | exact LeO.none _ | refine LeO.ite ?_ ?_ | refine LeO.bind ?_ (fun _ => ?_))
  | first | exact ih0 _ _ _ | exact ih1 _ _ _ _ | exact fullerref03_Same.mono _ _ _ _ _ | exact fullerref10_Same.mono _ _ _ | exact LeO.none _ | refine LeO.ite ?_ ?_ | refine LeO.bind ?_ (fun _ => ?_)
def fullerref23_Same.T6 : Bool × List (List Nat × List Nat) := (true, [([], []), ([], []), ([0, 1], [0, 1]), ([2], [2]), ([3], [3]), ([], []), ([], []), ([5, 6], [5, 6]), ([7], [7]), ([8], [8]), ([4, 9], [4, 9]), ([10, 10, 0, 1, 2, 3, 4, 5, 6, 7, 8, 9, 10], [10])])
def fullerref23_Same.B6 : List Nat := [0, 0, 3, 7, 15, 0, 0, 96, 224, 480, 1023, 2047]
theorem fullerref23_Same.tab6 : rtab .any (opsOf Try.f14 6) = fullerref23_Same.T6 := by kernel_rfl
theorem fullerref23_Same.bits6 : waitsOk fullerref23_Same.T6.2 fullerref23_Same.B6 = true := by kernel_rfl
def fullerref23_Same.T7 : Bool × List (List Nat × List Nat) := (true, [([], []), ([], []), ([0, 1], [0, 1]), ([2], [2]), ([3], [3]), ([], []), ([], []), ([5, 6], [5, 6]), ([7], [7]), ([8], [8]), ([4, 9], [4, 9]), ([10, 10, 0, 1, 2, 3, 4, 5, 6, 7, 8, 9, 10], [10])])
def fullerref23_Same.B7 : List Nat := [0, 0, 3, 7, 15, 0, 0, 96, 224, 480, 1023, 2047]
theorem fullerref23_Same.tab7 : rtab .any (opsOf Try.f14 7) = fullerref23_Same.T7 := by kernel_rfl
theorem fullerref23_Same.bits7 : waitsOk fullerref23_Same.T7.2 fullerref23_Same.B7 = true := by kernel_rfl
def fullerref23_Same.T8 : Bool × List (List Nat × List Nat) := (true, [([], []), ([0], [0]), ([1], [1]), ([2], [2]), ([3, 2], [2, 3]), ([2, 4], [2, 4]), ([5, 2], [5]), ([6], [6]), ([6], [6]), ([7, 8, 6], [6, 7, 8]), ([9, 6], [6, 9]), ([10, 6], [6, 10]), ([6], [6]), ([6], [6]), ([12, 13, 6], [6, 12, 13]), ([14, 6], [6, 14]), ([15, 6], [6, 15]), ([11, 16, 6], [6, 11, 16]), ([6, 17], [6, 17]), ([18, 6], [18]), ([19], [19]), ([19], [19]), ([20, 21, 19], [19, 20, 21]), ([22, 19], [19, 22]), ([23, 19], [19, 23]), ([19], [19]), ([19], [19]), ([25, 26, 19], [19, 25, 26]), ([27, 19], [19, 27]), ([28, 19], [19, 28]), ([24, 29, 19], [19, 24, 29]), ([19, 30], [19, 30]), ([31, 19], [31]), ([32], [32]), ([32], [32]), ([33, 34, 32], [32, 33, 34]), ([35, 32], [32, 35]), ([36, 32], [32, 36]), ([32], [32]), ([32], [32]), ([38, 39, 32], [32, 38, 39]), ([40, 32], [32, 40]), ([41, 32], [32, 41]), ([37, 42, 32], [32, 37, 42]), ([32, 43], [32, 43]), ([44, 32], [44]), ([45], [45]), ([45], [45]), ([46, 47, 45], [45, 46, 47]), ([48, 45], [45, 48]), ([49, 45], [45, 49]), ([45], [45]), ([45], [45]), ([51, 52, 45], [45, 51, 52]), ([53, 45], [45, 53]), ([54, 45], [45, 54]), ([50, 55, 45], [45, 50, 55]), ([45, 56], [45, 56]), ([57, 45], [57]), ([58], [58]), ([58], [58]), ([59, 60, 58], [58, 59, 60]), ([61, 58], [58, 61]), ([62, 58], [58, 62]), ([58], [58]), ([58], [58]), ([64, 65, 58], [58, 64, 65]), ([66, 58], [58, 66]), ([67, 58], [58, 67]), ([63, 68, 58], [58, 63, 68]), ([58, 69], [58, 69])])
def fullerref23_Same.B8 : List Nat := [0, 1, 3, 7, 15, 31, 63, 127, 127, 511, 1023, 2047, 127, 127, 12415, 28799, 61567, 131071, 262143, 524287, 1048575, 1048575, 4194303, 8388607, 16777215, 1048575, 1048575, 101711871, 235929599, 504365055, 1073741823, 2147483647, 4294967295, 8589934591, 8589934591, 34359738367, 68719476735, 137438953471, 8589934591, 8589934591, 833223655423, 1932735283199, 4131758538751, 8796093022207, 17592186044415, 35184372088831, 70368744177663, 70368744177663, 281474976710655, 562949953421311, 1125899906842623, 70368744177663, 70368744177663, 6825768185233407, 15832967439974399, 33847365949456383, 72057594037927935, 144115188075855871, 288230376151711743, 576460752303423487, 576460752303423487, 2305843009213693951, 4611686018427387903, 9223372036854775807, 576460752303423487, 576460752303423487, 55916692973432078335, 129703669268270284799, 277277621857946697727, 590295810358705651711, 1180591620717411303423]
theorem fullerref23_Same.tab8 : rtab .any (opsOf Try.f14 8) = fullerref23_Same.T8 := by kernel_rfl
theorem fullerref23_Same.bits8 : waitsOk fullerref23_Same.T8.2 fullerref23_Same.B8 = true := by kernel_rfl
set_option maxHeartbeats 8000000 in
set_option maxRecDepth 100000 in
theorem fullerref23_Same.calls (k : Nat) (A0 : Option Addr) (c0 : Nat) (l0 : List (S30)) (A1 : Option Addr) (c1 : Nat) (l1 : List (S30)) (r : Bool) (w : World) (hr0 : Kd.C k30 w A0 l0.length l0) (hc0 : l0.length ≤ c0) (hr1 : Kd.C k30 w A1 l1.length l1) (hc1 : l1.length ≤ c1) (h : fullerref23_Same.f k l0 l1 = some r) :
  Calls Try.prog 14 #[.slice A0 l0.length c0, .slice A1 l1.length c1] w fun e w' => e = .returned (.bool r) ∧ Below w.heap.size w w' := by
 have hu26 := Try.underlying26
 have hu28 := Try.underlying28
 have HR0 := Aside0.mk hr0
 have HC0 := Aside0.mk hc0
 clear hr0 hc0
 have HR1 := Aside0.mk hr1
 have HC1 := Aside0.mk hc1
 clear hr1 hc1
 have HB := Aside0.mk (Below.refl w.heap.size w)
 have H : (if (l0.length : Int) = (l1.length : Int) then (fullerref23_Same.l0 k l0 l1 0) else (some false)) = some r := h
 clear h
 by_cases c3 : (l0.length : Int) = (l1.length : Int)
 ·rw [if_pos c3] at H
  have c3b0 : ((l0.length : Int) == (l1.length : Int)) = true := beq_iff_eq.mpr c3
  have c3b1 : ((l0.length : Int) != (l1.length : Int)) = false := bne_eq_false_iff_eq.mpr c3
  have c3b2 : (l0.length == l1.length) = true := by first | simpa using c3 | (simp at c3 ⊢; omega)
  clear c3
  have H' := Aside0.mk H
  clear H
  go_enter Try.func14, Try.ntmps14
  go_wp2
  go_loopg [5] k (fun kq v5 w' => ∃ (x5_1 : Int), v5 = .int .i64 x5_1 ∧ Aside0 (fullerref23_Same.l0 kq l0 l1 x5_1 = some r) ∧ Aside0 (kq ≤ k) ∧ Aside0 (Below w.heap.size w w'))
  case atStart => exact ⟨(0), (by first | rfl | (simp; done) | (simp [*]; done)), H', ⟨Nat.le_refl _⟩, ⟨bq0_ HB.out⟩⟩
  case round =>
   clear H'
   try clear c1
   try clear p2
   try clear c3
   try clear c3b0
   try clear c3b1
   try clear c3b2
   obtain ⟨x5_1, rfl, HA, HK1, HB⟩ := hrel
   cases gk with
   | zero => exact absurd HA.out (by simp [fullerref23_Same.l0])
   | succ k1 =>
    have H := HA.out
    clear HA
    simp only [fullerref23_Same.l0] at H
    by_cases c4 : x5_1 < (l0.length : Int)
    ·rw [if_pos c4] at H
     have c4b0 : decide (x5_1 < (l0.length : Int)) = true := decide_eq_true c4
     clear c4
     by_cases c5 : 0 ≤ x5_1
     ·rw [if_pos c5] at H
      have c5b0 : decide (0 ≤ x5_1) = true := decide_eq_true c5
      clear c5
      by_cases c6 : x5_1 < (l1.length : Int)
      ·rw [if_pos c6] at H
       have c6b0 : decide (x5_1 < (l1.length : Int)) = true := decide_eq_true c6
       clear c6
       replace H := Option.bind_eq_some_iff.mp H
       obtain ⟨t204, A70, H⟩ := H
       replace H : ((fullerref03_Same.f k1 ((rd_T30 l0 x5_1).f3.f0) ((rd_T30 l0 x5_1).f3.f1) ((rd_T30 l1 x5_1).f3.f0) ((rd_T30 l1 x5_1).f3.f1)).bind fun t207 => (if t204 = true then (if t207 = true then (if ((rd_T30 l0 x5_1).f0) = ((rd_T30 l1 x5_1).f0) then (if ((rd_T30 l0 x5_1).f1) = ((rd_T30 l1 x5_1).f1) then (if (!(((rd_T30 l0 x5_1).f4.f0) == ((rd_T30 l1 x5_1).f4.f0)) || (!(((rd_T30 l0 x5_1).f4.f1) == ((rd_T30 l1 x5_1).f4.f1)) || (!(((rd_T30 l0 x5_1).f4.f2) == ((rd_T30 l1 x5_1).f4.f2)) || (!(((rd_T30 l0 x5_1).f4.f3) == ((rd_T30 l1 x5_1).f4.f3)))))) = true then (fullerref23_Same.j1 k1 l0 l1 x5_1 true) else (if ((rd_T30 l0 x5_1).f5) = ((rd_T30 l1 x5_1).f5) then (fullerref23_Same.j1 k1 l0 l1 x5_1 (((rd_T30 l0 x5_1).f6) != ((rd_T30 l1 x5_1).f6))) else (fullerref23_Same.j1 k1 l0 l1 x5_1 true))) else (fullerref23_Same.j1 k1 l0 l1 x5_1 true)) else (fullerref23_Same.j1 k1 l0 l1 x5_1 true)) else (fullerref23_Same.j1 k1 l0 l1 x5_1 true)) else (fullerref23_Same.j1 k1 l0 l1 x5_1 true))) = some r := H
       have A7 := Aside0.mk A70
       clear A70
       replace H := Option.bind_eq_some_iff.mp H
       obtain ⟨t207, A80, H⟩ := H
       replace H : (if t204 = true then (if t207 = true then (if ((rd_T30 l0 x5_1).f0) = ((rd_T30 l1 x5_1).f0) then (if ((rd_T30 l0 x5_1).f1) = ((rd_T30 l1 x5_1).f1) then (if (!(((rd_T30 l0 x5_1).f4.f0) == ((rd_T30 l1 x5_1).f4.f0)) || (!(((rd_T30 l0 x5_1).f4.f1) == ((rd_T30 l1 x5_1).f4.f1)) || (!(((rd_T30 l0 x5_1).f4.f2) == ((rd_T30 l1 x5_1).f4.f2)) || (!(((rd_T30 l0 x5_1).f4.f3) == ((rd_T30 l1 x5_1).f4.f3)))))) = true then (fullerref23_Same.j1 k1 l0 l1 x5_1 true) else (if ((rd_T30 l0 x5_1).f5) = ((rd_T30 l1 x5_1).f5) then (fullerref23_Same.j1 k1 l0 l1 x5_1 (((rd_T30 l0 x5_1).f6) != ((rd_T30 l1 x5_1).f6))) else (fullerref23_Same.j1 k1 l0 l1 x5_1 true))) else (fullerref23_Same.j1 k1 l0 l1 x5_1 true)) else (fullerref23_Same.j1 k1 l0 l1 x5_1 true)) else (fullerref23_Same.j1 k1 l0 l1 x5_1 true)) else (fullerref23_Same.j1 k1 l0 l1 x5_1 true)) = some r := H
       have A8 := Aside0.mk A80
       clear A80
       have HC9 := Aside0.mk H
       clear H
       try go_wp2
       replace HB := Aside0.mk (below_drew1 HB.out)
       have p202 : 0 ≤ (x5_1 : Int) := od_
       have q202 : x5_1 < (l0.length : Int) := od_
       obtain ⟨ad202, A202_2, c202_2, A202_3, c202_3, A202_4, c202_4, e202, hx202_0, hx202_1, hx202_2, hx202_3, hx202_4, hx202_5, hx202_6, hx202_7, hx202_8, hx202_9, hx202_10, hl202_2, hi202_2, hl202_3, hi202_3, hl202_4, hi202_4⟩ := at_T30 HR0.out x5_1 p202 q202
       have hw202_10 := hx202_10
       have hw202_9 := hx202_9
       have hw202_8 := hx202_8
       have hw202_7 := hx202_7
       have hw202_6 := hx202_6
       have hw202_5 := hx202_5
       have hw202_4 := hx202_4
       have hw202_3 := hx202_3
       have hw202_2 := hx202_2
       have hw202_1 := hx202_1
       have hw202_0 := hx202_0
       cases e202
       replace hx202_0 := hb_ HB hx202_0
       replace hx202_1 := hb_ HB hx202_1
       replace hx202_2 := hb_ HB hx202_2
       replace hx202_3 := hb_ HB hx202_3
       replace hx202_4 := hb_ HB hx202_4
       replace hx202_5 := hb_ HB hx202_5
       replace hx202_6 := hb_ HB hx202_6
       replace hx202_7 := hb_ HB hx202_7
       replace hx202_8 := hb_ HB hx202_8
       replace hx202_9 := hb_ HB hx202_9
       replace hx202_10 := hb_ HB hx202_10
       have HR202_2 := Aside0.mk hi202_2
       have HC202_2 := Aside0.mk hl202_2
       clear hi202_2 hl202_2
       have HR202_3 := Aside0.mk hi202_3
       have HC202_3 := Aside0.mk hl202_3
       clear hi202_3 hl202_3
       have HR202_4 := Aside0.mk hi202_4
       have HC202_4 := Aside0.mk hl202_4
       clear hi202_4 hl202_4
       replace p202 := eq_true p202
       replace q202 := eq_true q202
       have p203 : 0 ≤ (x5_1 : Int) := od_
       have q203 : x5_1 < (l1.length : Int) := od_
       obtain ⟨ad203, A203_2, c203_2, A203_3, c203_3, A203_4, c203_4, e203, hx203_0, hx203_1, hx203_2, hx203_3, hx203_4, hx203_5, hx203_6, hx203_7, hx203_8, hx203_9, hx203_10, hl203_2, hi203_2, hl203_3, hi203_3, hl203_4, hi203_4⟩ := at_T30 HR1.out x5_1 p203 q203
       have hw203_10 := hx203_10
       have hw203_9 := hx203_9
       have hw203_8 := hx203_8
       have hw203_7 := hx203_7
       have hw203_6 := hx203_6
       have hw203_5 := hx203_5
       have hw203_4 := hx203_4
       have hw203_3 := hx203_3
       have hw203_2 := hx203_2
       have hw203_1 := hx203_1
       have hw203_0 := hx203_0
       cases e203
       replace hx203_0 := hb_ HB hx203_0
       replace hx203_1 := hb_ HB hx203_1
       replace hx203_2 := hb_ HB hx203_2
       replace hx203_3 := hb_ HB hx203_3
       replace hx203_4 := hb_ HB hx203_4
       replace hx203_5 := hb_ HB hx203_5
       replace hx203_6 := hb_ HB hx203_6
       replace hx203_7 := hb_ HB hx203_7
       replace hx203_8 := hb_ HB hx203_8
       replace hx203_9 := hb_ HB hx203_9
       replace hx203_10 := hb_ HB hx203_10
       have HR203_2 := Aside0.mk hi203_2
       have HC203_2 := Aside0.mk hl203_2
       clear hi203_2 hl203_2
       have HR203_3 := Aside0.mk hi203_3
       have HC203_3 := Aside0.mk hl203_3
       clear hi203_3 hl203_3
       have HR203_4 := Aside0.mk hi203_4
       have HC203_4 := Aside0.mk hl203_4
       clear hi203_4 hl203_4
       replace p203 := eq_true p203
       replace q203 := eq_true q203
       refine start_ (n := 12) (S := fun w' => w'.cell? (ad202.add ((x5_1).toNat * 11)) = some (.int .i64 ((rd_T30 l0 x5_1).f0)) ∧ w'.cell? ⟨(ad202.add ((x5_1).toNat * 11)).block, (ad202.add ((x5_1).toNat * 11)).off + 1, none⟩ = some (.int .i64 ((rd_T30 l0 x5_1).f1)) ∧ w'.cell? ⟨(ad202.add ((x5_1).toNat * 11)).block, (ad202.add ((x5_1).toNat * 11)).off + 2, none⟩ = some (.slice A202_2 ((rd_T30 l0 x5_1).f2).length c202_2) ∧ w'.cell? ⟨(ad202.add ((x5_1).toNat * 11)).block, (ad202.add ((x5_1).toNat * 11)).off + 3, none⟩ = some (.slice A202_3 ((rd_T30 l0 x5_1).f3.f0).length c202_3) ∧ w'.cell? ⟨(ad202.add ((x5_1).toNat * 11)).block, (ad202.add ((x5_1).toNat * 11)).off + 4, none⟩ = some (.slice A202_4 ((rd_T30 l0 x5_1).f3.f1).length c202_4) ∧ w'.cell? ⟨(ad202.add ((x5_1).toNat * 11)).block, (ad202.add ((x5_1).toNat * 11)).off + 5, none⟩ = some (.int .i64 ((rd_T30 l0 x5_1).f4.f0)) ∧ w'.cell? ⟨(ad202.add ((x5_1).toNat * 11)).block, (ad202.add ((x5_1).toNat * 11)).off + 6, none⟩ = some (.int .i64 ((rd_T30 l0 x5_1).f4.f1)) ∧ w'.cell? ⟨(ad202.add ((x5_1).toNat * 11)).block, (ad202.add ((x5_1).toNat * 11)).off + 7, none⟩ = some (.int .i64 ((rd_T30 l0 x5_1).f4.f2)) ∧ w'.cell? ⟨(ad202.add ((x5_1).toNat * 11)).block, (ad202.add ((x5_1).toNat * 11)).off + 8, none⟩ = some (.int .i64 ((rd_T30 l0 x5_1).f4.f3)) ∧ w'.cell? ⟨(ad202.add ((x5_1).toNat * 11)).block, (ad202.add ((x5_1).toNat * 11)).off + 9, none⟩ = some (.int .i64 ((rd_T30 l0 x5_1).f5)) ∧ w'.cell? ⟨(ad202.add ((x5_1).toNat * 11)).block, (ad202.add ((x5_1).toNat * 11)).off + 10, none⟩ = some (.int .i64 ((rd_T30 l0 x5_1).f6)) ∧ w'.cell? (ad203.add ((x5_1).toNat * 11)) = some (.int .i64 ((rd_T30 l1 x5_1).f0)) ∧ w'.cell? ⟨(ad203.add ((x5_1).toNat * 11)).block, (ad203.add ((x5_1).toNat * 11)).off + 1, none⟩ = some (.int .i64 ((rd_T30 l1 x5_1).f1)) ∧ w'.cell? ⟨(ad203.add ((x5_1).toNat * 11)).block, (ad203.add ((x5_1).toNat * 11)).off + 2, none⟩ = some (.slice A203_2 ((rd_T30 l1 x5_1).f2).length c203_2) ∧ w'.cell? ⟨(ad203.add ((x5_1).toNat * 11)).block, (ad203.add ((x5_1).toNat * 11)).off + 3, none⟩ = some (.slice A203_3 ((rd_T30 l1 x5_1).f3.f0).length c203_3) ∧ w'.cell? ⟨(ad203.add ((x5_1).toNat * 11)).block, (ad203.add ((x5_1).toNat * 11)).off + 4, none⟩ = some (.slice A203_4 ((rd_T30 l1 x5_1).f3.f1).length c203_4) ∧ w'.cell? ⟨(ad203.add ((x5_1).toNat * 11)).block, (ad203.add ((x5_1).toNat * 11)).off + 5, none⟩ = some (.int .i64 ((rd_T30 l1 x5_1).f4.f0)) ∧ w'.cell? ⟨(ad203.add ((x5_1).toNat * 11)).block, (ad203.add ((x5_1).toNat * 11)).off + 6, none⟩ = some (.int .i64 ((rd_T30 l1 x5_1).f4.f1)) ∧ w'.cell? ⟨(ad203.add ((x5_1).toNat * 11)).block, (ad203.add ((x5_1).toNat * 11)).off + 7, none⟩ = some (.int .i64 ((rd_T30 l1 x5_1).f4.f2)) ∧ w'.cell? ⟨(ad203.add ((x5_1).toNat * 11)).block, (ad203.add ((x5_1).toNat * 11)).off + 8, none⟩ = some (.int .i64 ((rd_T30 l1 x5_1).f4.f3)) ∧ w'.cell? ⟨(ad203.add ((x5_1).toNat * 11)).block, (ad203.add ((x5_1).toNat * 11)).off + 9, none⟩ = some (.int .i64 ((rd_T30 l1 x5_1).f5)) ∧ w'.cell? ⟨(ad203.add ((x5_1).toNat * 11)).block, (ad203.add ((x5_1).toNat * 11)).off + 10, none⟩ = some (.int .i64 ((rd_T30 l1 x5_1).f6))) (ds := []) L14_0 (by kernel_rfl) rfl rfl ⟨((HB.out.cell (World.block_lt_of_cell? w _ hw202_0)).trans hw202_0), ((HB.out.cell (World.block_lt_of_cell? w _ hw202_1)).trans hw202_1), ((HB.out.cell (World.block_lt_of_cell? w _ hw202_2)).trans hw202_2), ((HB.out.cell (World.block_lt_of_cell? w _ hw202_3)).trans hw202_3), ((HB.out.cell (World.block_lt_of_cell? w _ hw202_4)).trans hw202_4), ((HB.out.cell (World.block_lt_of_cell? w _ hw202_5)).trans hw202_5), ((HB.out.cell (World.block_lt_of_cell? w _ hw202_6)).trans hw202_6), ((HB.out.cell (World.block_lt_of_cell? w _ hw202_7)).trans hw202_7), ((HB.out.cell (World.block_lt_of_cell? w _ hw202_8)).trans hw202_8), ((HB.out.cell (World.block_lt_of_cell? w _ hw202_9)).trans hw202_9), ((HB.out.cell (World.block_lt_of_cell? w _ hw202_10)).trans hw202_10), ((HB.out.cell (World.block_lt_of_cell? w _ hw203_0)).trans hw203_0), ((HB.out.cell (World.block_lt_of_cell? w _ hw203_1)).trans hw203_1), ((HB.out.cell (World.block_lt_of_cell? w _ hw203_2)).trans hw203_2), ((HB.out.cell (World.block_lt_of_cell? w _ hw203_3)).trans hw203_3), ((HB.out.cell (World.block_lt_of_cell? w _ hw203_4)).trans hw203_4), ((HB.out.cell (World.block_lt_of_cell? w _ hw203_5)).trans hw203_5), ((HB.out.cell (World.block_lt_of_cell? w _ hw203_6)).trans hw203_6), ((HB.out.cell (World.block_lt_of_cell? w _ hw203_7)).trans hw203_7), ((HB.out.cell (World.block_lt_of_cell? w _ hw203_8)).trans hw203_8), ((HB.out.cell (World.block_lt_of_cell? w _ hw203_9)).trans hw203_9), ((HB.out.cell (World.block_lt_of_cell? w _ hw203_10)).trans hw203_10)⟩ (fun hHeld => ?_); refine with_tabW fullerref23_Same.tab6 fullerref23_Same.bits6 (fun HT_ HW_ => ?_)
       generalize wr.drew = w10 at HB HR202_2 HR202_3 HR202_4 HR203_2 HR203_3 HR203_4 hx202_0 hx202_1 hx202_10 hx202_2 hx202_3 hx202_4 hx202_5 hx202_6 hx202_7 hx202_8 hx202_9 hx203_0 hx203_1 hx203_10 hx203_2 hx203_3 hx203_4 hx203_5 hx203_6 hx203_7 hx203_8 hx203_9 hHeld ⊢
       refine pu_ 0 (some 19) L14_1 HT_ ?_
       refine pu_ 1 (some 20) L14_2 HT_ ?_
       refine pu_ 2 (some 21) L14_3 HT_ ?_
       refine pu_ 3 (some 22) L14_4 HT_ ?_
       refine pu_ 5 (some 24) L14_5 HT_ ?_
       refine pu_ 6 (some 25) L14_6 HT_ ?_
       refine pu_ 7 (some 26) L14_7 HT_ ?_
       refine pu_ 8 (some 27) L14_8 HT_ ?_
       refine ta_ 4 (some 23) L14_9 HT_ HW_ hHeld ?_ (hy := by rintro w' ⟨s0, s1, s2, s3, s4, s5, s6, s7, s8, s9, s10, s11, s12, s13, s14, s15, s16, s17, s18, s19, s20, s21⟩; go_simp; with_reducible rfl)
       refine ta_ 9 (some 28) L14_10 HT_ HW_ hHeld ?_ (hy := by rintro w' ⟨s0, s1, s2, s3, s4, s5, s6, s7, s8, s9, s10, s11, s12, s13, s14, s15, s16, s17, s18, s19, s20, s21⟩; go_simp; with_reducible rfl)
       refine one_ (i := 10) (N := some 29) L14_11 rfl rfl (one_of HT_.out (by kernel_rfl)) (by decide) (fun K hK => ?_)
       refine goes_ Try.func28 (by kernel_rfl) rfl #[.slice A202_2 ((rd_T30 l0 x5_1).f2).length c202_2, .slice A203_2 ((rd_T30 l1 x5_1).f2).length c203_2] (by rfl) rfl rfl (by (try simp only [List.map_toArray, List.map_cons, List.map_nil]); first | done | rfl | (simp only [List.length_drop, List.length_take]; rfl)) ?_
       with_reducible refine (fullerref10_Same.calls k1 _ _ ((rd_T30 l0 x5_1).f2) _ _ ((rd_T30 l1 x5_1).f2) t204 _ ?side1 ?side2 ?side3 ?side4 A7.out).mono ?_
       (case side1 => exact mvC_ ((Kd.C_below HR202_2.out HB.out)))
       (case side2 => exact HC202_2.out)
       (case side3 => exact mvC_ ((Kd.C_below HR203_2.out HB.out)))
       (case side4 => exact HC203_2.out)
       rintro e w11 ⟨rfl, hb⟩
       refine ⟨_, rfl, ?_⟩
       replace HB := Aside0.mk (below_step (bq0_ HB.out) hb)
       (try clear hb)
       (try clear hb2)
       (try clear hk)
       (try clear hi)
       refine hK.out _ _ ⟨((HB.out.cell (World.block_lt_of_cell? w _ hw202_0)).trans hw202_0), ((HB.out.cell (World.block_lt_of_cell? w _ hw202_1)).trans hw202_1), ((HB.out.cell (World.block_lt_of_cell? w _ hw202_2)).trans hw202_2), ((HB.out.cell (World.block_lt_of_cell? w _ hw202_3)).trans hw202_3), ((HB.out.cell (World.block_lt_of_cell? w _ hw202_4)).trans hw202_4), ((HB.out.cell (World.block_lt_of_cell? w _ hw202_5)).trans hw202_5), ((HB.out.cell (World.block_lt_of_cell? w _ hw202_6)).trans hw202_6), ((HB.out.cell (World.block_lt_of_cell? w _ hw202_7)).trans hw202_7), ((HB.out.cell (World.block_lt_of_cell? w _ hw202_8)).trans hw202_8), ((HB.out.cell (World.block_lt_of_cell? w _ hw202_9)).trans hw202_9), ((HB.out.cell (World.block_lt_of_cell? w _ hw202_10)).trans hw202_10), ((HB.out.cell (World.block_lt_of_cell? w _ hw203_0)).trans hw203_0), ((HB.out.cell (World.block_lt_of_cell? w _ hw203_1)).trans hw203_1), ((HB.out.cell (World.block_lt_of_cell? w _ hw203_2)).trans hw203_2), ((HB.out.cell (World.block_lt_of_cell? w _ hw203_3)).trans hw203_3), ((HB.out.cell (World.block_lt_of_cell? w _ hw203_4)).trans hw203_4), ((HB.out.cell (World.block_lt_of_cell? w _ hw203_5)).trans hw203_5), ((HB.out.cell (World.block_lt_of_cell? w _ hw203_6)).trans hw203_6), ((HB.out.cell (World.block_lt_of_cell? w _ hw203_7)).trans hw203_7), ((HB.out.cell (World.block_lt_of_cell? w _ hw203_8)).trans hw203_8), ((HB.out.cell (World.block_lt_of_cell? w _ hw203_9)).trans hw203_9), ((HB.out.cell (World.block_lt_of_cell? w _ hw203_10)).trans hw203_10)⟩ (fun hHeld => ?_)
       clear hK K
       refine norm_ (a' := ?_) ?_ ?_
       rotate_left
       ·show Act.put _ (some 29) _ = _
        simp only [Act.put, sA_, sB_, sC_, i64_w, i32_w]
        rfl
       refine pu_ 11 (some 6) L14_12 HT_ ?_
       refine done_ (done_of HT_.out (by kernel_rfl)) ?_
       try go_wp2
       replace HB := Aside0.mk (below_drew1 HB.out)
       have p205 : 0 ≤ (x5_1 : Int) := od_
       have q205 : x5_1 < (l0.length : Int) := od_
       obtain ⟨ad205, A205_2, c205_2, A205_3, c205_3, A205_4, c205_4, e205, hx205_0, hx205_1, hx205_2, hx205_3, hx205_4, hx205_5, hx205_6, hx205_7, hx205_8, hx205_9, hx205_10, hl205_2, hi205_2, hl205_3, hi205_3, hl205_4, hi205_4⟩ := at_T30 HR0.out x5_1 p205 q205
       have hw205_10 := hx205_10
       have hw205_9 := hx205_9
       have hw205_8 := hx205_8
       have hw205_7 := hx205_7
       have hw205_6 := hx205_6
       have hw205_5 := hx205_5
       have hw205_4 := hx205_4
       have hw205_3 := hx205_3
       have hw205_2 := hx205_2
       have hw205_1 := hx205_1
       have hw205_0 := hx205_0
       obtain rfl : ad202 = ad205 := (by injection e205)
       replace hx205_0 := hb_ HB hx205_0
       replace hx205_1 := hb_ HB hx205_1
       replace hx205_2 := hb_ HB hx205_2
       replace hx205_3 := hb_ HB hx205_3
       replace hx205_4 := hb_ HB hx205_4
       replace hx205_5 := hb_ HB hx205_5
       replace hx205_6 := hb_ HB hx205_6
       replace hx205_7 := hb_ HB hx205_7
       replace hx205_8 := hb_ HB hx205_8
       replace hx205_9 := hb_ HB hx205_9
       replace hx205_10 := hb_ HB hx205_10
       have HR205_2 := Aside0.mk hi205_2
       have HC205_2 := Aside0.mk hl205_2
       clear hi205_2 hl205_2
       have HR205_3 := Aside0.mk hi205_3
       have HC205_3 := Aside0.mk hl205_3
       clear hi205_3 hl205_3
       have HR205_4 := Aside0.mk hi205_4
       have HC205_4 := Aside0.mk hl205_4
       clear hi205_4 hl205_4
       replace p205 := eq_true p205
       replace q205 := eq_true q205
       have p206 : 0 ≤ (x5_1 : Int) := od_
       have q206 : x5_1 < (l1.length : Int) := od_
       obtain ⟨ad206, A206_2, c206_2, A206_3, c206_3, A206_4, c206_4, e206, hx206_0, hx206_1, hx206_2, hx206_3, hx206_4, hx206_5, hx206_6, hx206_7, hx206_8, hx206_9, hx206_10, hl206_2, hi206_2, hl206_3, hi206_3, hl206_4, hi206_4⟩ := at_T30 HR1.out x5_1 p206 q206
       have hw206_10 := hx206_10
       have hw206_9 := hx206_9
       have hw206_8 := hx206_8
       have hw206_7 := hx206_7
       have hw206_6 := hx206_6
       have hw206_5 := hx206_5
       have hw206_4 := hx206_4
       have hw206_3 := hx206_3
       have hw206_2 := hx206_2
       have hw206_1 := hx206_1
       have hw206_0 := hx206_0
       obtain rfl : ad203 = ad206 := (by injection e206)
       replace hx206_0 := hb_ HB hx206_0
       replace hx206_1 := hb_ HB hx206_1
       replace hx206_2 := hb_ HB hx206_2
       replace hx206_3 := hb_ HB hx206_3
       replace hx206_4 := hb_ HB hx206_4
       replace hx206_5 := hb_ HB hx206_5
       replace hx206_6 := hb_ HB hx206_6
       replace hx206_7 := hb_ HB hx206_7
       replace hx206_8 := hb_ HB hx206_8
       replace hx206_9 := hb_ HB hx206_9
       replace hx206_10 := hb_ HB hx206_10
       have HR206_2 := Aside0.mk hi206_2
       have HC206_2 := Aside0.mk hl206_2
       clear hi206_2 hl206_2
       have HR206_3 := Aside0.mk hi206_3
       have HC206_3 := Aside0.mk hl206_3
       clear hi206_3 hl206_3
       have HR206_4 := Aside0.mk hi206_4
       have HC206_4 := Aside0.mk hl206_4
       clear hi206_4 hl206_4
       replace p206 := eq_true p206
       replace q206 := eq_true q206
       refine start_ (n := 12) (S := fun w' => w'.cell? (ad202.add ((x5_1).toNat * 11)) = some (.int .i64 ((rd_T30 l0 x5_1).f0)) ∧ w'.cell? ⟨(ad202.add ((x5_1).toNat * 11)).block, (ad202.add ((x5_1).toNat * 11)).off + 1, none⟩ = some (.int .i64 ((rd_T30 l0 x5_1).f1)) ∧ w'.cell? ⟨(ad202.add ((x5_1).toNat * 11)).block, (ad202.add ((x5_1).toNat * 11)).off + 2, none⟩ = some (.slice A205_2 ((rd_T30 l0 x5_1).f2).length c205_2) ∧ w'.cell? ⟨(ad202.add ((x5_1).toNat * 11)).block, (ad202.add ((x5_1).toNat * 11)).off + 3, none⟩ = some (.slice A205_3 ((rd_T30 l0 x5_1).f3.f0).length c205_3) ∧ w'.cell? ⟨(ad202.add ((x5_1).toNat * 11)).block, (ad202.add ((x5_1).toNat * 11)).off + 4, none⟩ = some (.slice A205_4 ((rd_T30 l0 x5_1).f3.f1).length c205_4) ∧ w'.cell? ⟨(ad202.add ((x5_1).toNat * 11)).block, (ad202.add ((x5_1).toNat * 11)).off + 5, none⟩ = some (.int .i64 ((rd_T30 l0 x5_1).f4.f0)) ∧ w'.cell? ⟨(ad202.add ((x5_1).toNat * 11)).block, (ad202.add ((x5_1).toNat * 11)).off + 6, none⟩ = some (.int .i64 ((rd_T30 l0 x5_1).f4.f1)) ∧ w'.cell? ⟨(ad202.add ((x5_1).toNat * 11)).block, (ad202.add ((x5_1).toNat * 11)).off + 7, none⟩ = some (.int .i64 ((rd_T30 l0 x5_1).f4.f2)) ∧ w'.cell? ⟨(ad202.add ((x5_1).toNat * 11)).block, (ad202.add ((x5_1).toNat * 11)).off + 8, none⟩ = some (.int .i64 ((rd_T30 l0 x5_1).f4.f3)) ∧ w'.cell? ⟨(ad202.add ((x5_1).toNat * 11)).block, (ad202.add ((x5_1).toNat * 11)).off + 9, none⟩ = some (.int .i64 ((rd_T30 l0 x5_1).f5)) ∧ w'.cell? ⟨(ad202.add ((x5_1).toNat * 11)).block, (ad202.add ((x5_1).toNat * 11)).off + 10, none⟩ = some (.int .i64 ((rd_T30 l0 x5_1).f6)) ∧ w'.cell? (ad203.add ((x5_1).toNat * 11)) = some (.int .i64 ((rd_T30 l1 x5_1).f0)) ∧ w'.cell? ⟨(ad203.add ((x5_1).toNat * 11)).block, (ad203.add ((x5_1).toNat * 11)).off + 1, none⟩ = some (.int .i64 ((rd_T30 l1 x5_1).f1)) ∧ w'.cell? ⟨(ad203.add ((x5_1).toNat * 11)).block, (ad203.add ((x5_1).toNat * 11)).off + 2, none⟩ = some (.slice A206_2 ((rd_T30 l1 x5_1).f2).length c206_2) ∧ w'.cell? ⟨(ad203.add ((x5_1).toNat * 11)).block, (ad203.add ((x5_1).toNat * 11)).off + 3, none⟩ = some (.slice A206_3 ((rd_T30 l1 x5_1).f3.f0).length c206_3) ∧ w'.cell? ⟨(ad203.add ((x5_1).toNat * 11)).block, (ad203.add ((x5_1).toNat * 11)).off + 4, none⟩ = some (.slice A206_4 ((rd_T30 l1 x5_1).f3.f1).length c206_4) ∧ w'.cell? ⟨(ad203.add ((x5_1).toNat * 11)).block, (ad203.add ((x5_1).toNat * 11)).off + 5, none⟩ = some (.int .i64 ((rd_T30 l1 x5_1).f4.f0)) ∧ w'.cell? ⟨(ad203.add ((x5_1).toNat * 11)).block, (ad203.add ((x5_1).toNat * 11)).off + 6, none⟩ = some (.int .i64 ((rd_T30 l1 x5_1).f4.f1)) ∧ w'.cell? ⟨(ad203.add ((x5_1).toNat * 11)).block, (ad203.add ((x5_1).toNat * 11)).off + 7, none⟩ = some (.int .i64 ((rd_T30 l1 x5_1).f4.f2)) ∧ w'.cell? ⟨(ad203.add ((x5_1).toNat * 11)).block, (ad203.add ((x5_1).toNat * 11)).off + 8, none⟩ = some (.int .i64 ((rd_T30 l1 x5_1).f4.f3)) ∧ w'.cell? ⟨(ad203.add ((x5_1).toNat * 11)).block, (ad203.add ((x5_1).toNat * 11)).off + 9, none⟩ = some (.int .i64 ((rd_T30 l1 x5_1).f5)) ∧ w'.cell? ⟨(ad203.add ((x5_1).toNat * 11)).block, (ad203.add ((x5_1).toNat * 11)).off + 10, none⟩ = some (.int .i64 ((rd_T30 l1 x5_1).f6))) (ds := []) L14_0 (by kernel_rfl) rfl rfl ⟨((HB.out.cell (World.block_lt_of_cell? w _ hw205_0)).trans hw205_0), ((HB.out.cell (World.block_lt_of_cell? w _ hw205_1)).trans hw205_1), ((HB.out.cell (World.block_lt_of_cell? w _ hw205_2)).trans hw205_2), ((HB.out.cell (World.block_lt_of_cell? w _ hw205_3)).trans hw205_3), ((HB.out.cell (World.block_lt_of_cell? w _ hw205_4)).trans hw205_4), ((HB.out.cell (World.block_lt_of_cell? w _ hw205_5)).trans hw205_5), ((HB.out.cell (World.block_lt_of_cell? w _ hw205_6)).trans hw205_6), ((HB.out.cell (World.block_lt_of_cell? w _ hw205_7)).trans hw205_7), ((HB.out.cell (World.block_lt_of_cell? w _ hw205_8)).trans hw205_8), ((HB.out.cell (World.block_lt_of_cell? w _ hw205_9)).trans hw205_9), ((HB.out.cell (World.block_lt_of_cell? w _ hw205_10)).trans hw205_10), ((HB.out.cell (World.block_lt_of_cell? w _ hw206_0)).trans hw206_0), ((HB.out.cell (World.block_lt_of_cell? w _ hw206_1)).trans hw206_1), ((HB.out.cell (World.block_lt_of_cell? w _ hw206_2)).trans hw206_2), ((HB.out.cell (World.block_lt_of_cell? w _ hw206_3)).trans hw206_3), ((HB.out.cell (World.block_lt_of_cell? w _ hw206_4)).trans hw206_4), ((HB.out.cell (World.block_lt_of_cell? w _ hw206_5)).trans hw206_5), ((HB.out.cell (World.block_lt_of_cell? w _ hw206_6)).trans hw206_6), ((HB.out.cell (World.block_lt_of_cell? w _ hw206_7)).trans hw206_7), ((HB.out.cell (World.block_lt_of_cell? w _ hw206_8)).trans hw206_8), ((HB.out.cell (World.block_lt_of_cell? w _ hw206_9)).trans hw206_9), ((HB.out.cell (World.block_lt_of_cell? w _ hw206_10)).trans hw206_10)⟩ (fun hHeld => ?_); refine with_tabW fullerref23_Same.tab7 fullerref23_Same.bits7 (fun HT_ HW_ => ?_)
       generalize w11.drew = w12 at HB HR205_2 HR205_3 HR205_4 HR206_2 HR206_3 HR206_4 hx205_0 hx205_1 hx205_10 hx205_2 hx205_3 hx205_4 hx205_5 hx205_6 hx205_7 hx205_8 hx205_9 hx206_0 hx206_1 hx206_10 hx206_2 hx206_3 hx206_4 hx206_5 hx206_6 hx206_7 hx206_8 hx206_9 hHeld ⊢
       refine pu_ 0 (some 30) L14_1 HT_ ?_
       refine pu_ 1 (some 31) L14_2 HT_ ?_
       refine pu_ 2 (some 32) L14_3 HT_ ?_
       refine pu_ 3 (some 33) L14_4 HT_ ?_
       refine pu_ 5 (some 35) L14_5 HT_ ?_
       refine pu_ 6 (some 36) L14_6 HT_ ?_
       refine pu_ 7 (some 37) L14_7 HT_ ?_
       refine pu_ 8 (some 38) L14_8 HT_ ?_
       refine ta_ 4 (some 34) L14_9 HT_ HW_ hHeld ?_ (hy := by rintro w' ⟨s0, s1, s2, s3, s4, s5, s6, s7, s8, s9, s10, s11, s12, s13, s14, s15, s16, s17, s18, s19, s20, s21⟩; go_simp; with_reducible rfl)
       refine ta_ 9 (some 39) L14_10 HT_ HW_ hHeld ?_ (hy := by rintro w' ⟨s0, s1, s2, s3, s4, s5, s6, s7, s8, s9, s10, s11, s12, s13, s14, s15, s16, s17, s18, s19, s20, s21⟩; go_simp; with_reducible rfl)
       refine one_ (i := 10) (N := some 40) L14_11 rfl rfl (one_of HT_.out (by kernel_rfl)) (by decide) (fun K hK => ?_)
       refine goes_ Try.func29 (by kernel_rfl) rfl #[.agg #[.slice A205_3 ((rd_T30 l0 x5_1).f3.f0).length c205_3, .slice A205_4 ((rd_T30 l0 x5_1).f3.f1).length c205_4], .agg #[.slice A206_3 ((rd_T30 l1 x5_1).f3.f0).length c206_3, .slice A206_4 ((rd_T30 l1 x5_1).f3.f1).length c206_4]] (by rfl) rfl rfl (by (try simp only [List.map_toArray, List.map_cons, List.map_nil]); first | done | rfl | (simp only [List.length_drop, List.length_take]; rfl)) ?_
       with_reducible refine (fullerref03_Same.calls k1 _ _ ((rd_T30 l0 x5_1).f3.f0) _ _ ((rd_T30 l0 x5_1).f3.f1) _ _ ((rd_T30 l1 x5_1).f3.f0) _ _ ((rd_T30 l1 x5_1).f3.f1) t207 _ ?side1 ?side2 ?side3 ?side4 ?side5 ?side6 ?side7 ?side8 A8.out).mono ?_
       (case side1 => exact mvC_ ((Kd.C_below HR205_3.out HB.out)))
       (case side2 => exact HC205_3.out)
       (case side3 => exact mvC_ ((Kd.C_below HR205_4.out HB.out)))
       (case side4 => exact HC205_4.out)
       (case side5 => exact mvC_ ((Kd.C_below HR206_3.out HB.out)))
       (case side6 => exact HC206_3.out)
       (case side7 => exact mvC_ ((Kd.C_below HR206_4.out HB.out)))
       (case side8 => exact HC206_4.out)
       rintro e w13 ⟨rfl, hb⟩
       refine ⟨_, rfl, ?_⟩
       replace HB := Aside0.mk (below_step (bq0_ HB.out) hb)
       (try clear hb)
       (try clear hb2)
       (try clear hk)
       (try clear hi)
       refine hK.out _ _ ⟨((HB.out.cell (World.block_lt_of_cell? w _ hw205_0)).trans hw205_0), ((HB.out.cell (World.block_lt_of_cell? w _ hw205_1)).trans hw205_1), ((HB.out.cell (World.block_lt_of_cell? w _ hw205_2)).trans hw205_2), ((HB.out.cell (World.block_lt_of_cell? w _ hw205_3)).trans hw205_3), ((HB.out.cell (World.block_lt_of_cell? w _ hw205_4)).trans hw205_4), ((HB.out.cell (World.block_lt_of_cell? w _ hw205_5)).trans hw205_5), ((HB.out.cell (World.block_lt_of_cell? w _ hw205_6)).trans hw205_6), ((HB.out.cell (World.block_lt_of_cell? w _ hw205_7)).trans hw205_7), ((HB.out.cell (World.block_lt_of_cell? w _ hw205_8)).trans hw205_8), ((HB.out.cell (World.block_lt_of_cell? w _ hw205_9)).trans hw205_9), ((HB.out.cell (World.block_lt_of_cell? w _ hw205_10)).trans hw205_10), ((HB.out.cell (World.block_lt_of_cell? w _ hw206_0)).trans hw206_0), ((HB.out.cell (World.block_lt_of_cell? w _ hw206_1)).trans hw206_1), ((HB.out.cell (World.block_lt_of_cell? w _ hw206_2)).trans hw206_2), ((HB.out.cell (World.block_lt_of_cell? w _ hw206_3)).trans hw206_3), ((HB.out.cell (World.block_lt_of_cell? w _ hw206_4)).trans hw206_4), ((HB.out.cell (World.block_lt_of_cell? w _ hw206_5)).trans hw206_5), ((HB.out.cell (World.block_lt_of_cell? w _ hw206_6)).trans hw206_6), ((HB.out.cell (World.block_lt_of_cell? w _ hw206_7)).trans hw206_7), ((HB.out.cell (World.block_lt_of_cell? w _ hw206_8)).trans hw206_8), ((HB.out.cell (World.block_lt_of_cell? w _ hw206_9)).trans hw206_9), ((HB.out.cell (World.block_lt_of_cell? w _ hw206_10)).trans hw206_10)⟩ (fun hHeld => ?_)
       clear hK K
       refine norm_ (a' := ?_) ?_ ?_
       rotate_left
       ·show Act.put _ (some 40) _ = _
        simp only [Act.put, sA_, sB_, sC_, i64_w, i32_w]
        rfl
       refine pu_ 11 (some 7) L14_12 HT_ ?_
       refine done_ (done_of HT_.out (by kernel_rfl)) ?_
       go_upto_region 8 with (fail)
       go_cut [111] (fun v111 wc => ∃ (kq : Nat) (x111_8 : Bool), v111 = .bool x111_8 ∧ Aside0 (fullerref23_Same.j1 kq l0 l1 x5_1 x111_8 = some r) ∧ Aside0 (kq ≤ k1) ∧ Aside0 (Below w.heap.size w wc))
       case first =>
        have H := HC9.out
        clear HC9
        by_cases c14 : t204 = true
        ·subst c14
         have H1 : (if t207 = true then (if ((rd_T30 l0 x5_1).f0) = ((rd_T30 l1 x5_1).f0) then (if ((rd_T30 l0 x5_1).f1) = ((rd_T30 l1 x5_1).f1) then (if (!(((rd_T30 l0 x5_1).f4.f0) == ((rd_T30 l1 x5_1).f4.f0)) || (!(((rd_T30 l0 x5_1).f4.f1) == ((rd_T30 l1 x5_1).f4.f1)) || (!(((rd_T30 l0 x5_1).f4.f2) == ((rd_T30 l1 x5_1).f4.f2)) || (!(((rd_T30 l0 x5_1).f4.f3) == ((rd_T30 l1 x5_1).f4.f3)))))) = true then (fullerref23_Same.j1 k1 l0 l1 x5_1 true) else (if ((rd_T30 l0 x5_1).f5) = ((rd_T30 l1 x5_1).f5) then (fullerref23_Same.j1 k1 l0 l1 x5_1 (((rd_T30 l0 x5_1).f6) != ((rd_T30 l1 x5_1).f6))) else (fullerref23_Same.j1 k1 l0 l1 x5_1 true))) else (fullerref23_Same.j1 k1 l0 l1 x5_1 true)) else (fullerref23_Same.j1 k1 l0 l1 x5_1 true)) else (fullerref23_Same.j1 k1 l0 l1 x5_1 true)) = some r := by rw [if_pos rfl] at H; exact H
         clear H
         have H := H1
         clear H1
         by_cases c15 : t207 = true
         ·subst c15
          have H1 : (if ((rd_T30 l0 x5_1).f0) = ((rd_T30 l1 x5_1).f0) then (if ((rd_T30 l0 x5_1).f1) = ((rd_T30 l1 x5_1).f1) then (if (!(((rd_T30 l0 x5_1).f4.f0) == ((rd_T30 l1 x5_1).f4.f0)) || (!(((rd_T30 l0 x5_1).f4.f1) == ((rd_T30 l1 x5_1).f4.f1)) || (!(((rd_T30 l0 x5_1).f4.f2) == ((rd_T30 l1 x5_1).f4.f2)) || (!(((rd_T30 l0 x5_1).f4.f3) == ((rd_T30 l1 x5_1).f4.f3)))))) = true then (fullerref23_Same.j1 k1 l0 l1 x5_1 true) else (if ((rd_T30 l0 x5_1).f5) = ((rd_T30 l1 x5_1).f5) then (fullerref23_Same.j1 k1 l0 l1 x5_1 (((rd_T30 l0 x5_1).f6) != ((rd_T30 l1 x5_1).f6))) else (fullerref23_Same.j1 k1 l0 l1 x5_1 true))) else (fullerref23_Same.j1 k1 l0 l1 x5_1 true)) else (fullerref23_Same.j1 k1 l0 l1 x5_1 true)) = some r := by rw [if_pos rfl] at H; exact H
          clear H
          have H := H1
          clear H1
          by_cases c16 : ((rd_T30 l0 x5_1).f0) = ((rd_T30 l1 x5_1).f0)
          ·rw [if_pos c16] at H
           obtain ⟨c16b0, c16b1⟩ := eqT_ c16
           clear c16
           (first | rw [c16b0] | (simp only [i64_w, i32_w]; rw [c16b0]) | rw [c16b1] | skip)
           by_cases c17 : ((rd_T30 l0 x5_1).f1) = ((rd_T30 l1 x5_1).f1)
           ·rw [if_pos c17] at H
            obtain ⟨c17b0, c17b1⟩ := eqT_ c17
            clear c17
            by_cases c18 : (!(((rd_T30 l0 x5_1).f4.f0) == ((rd_T30 l1 x5_1).f4.f0)) || (!(((rd_T30 l0 x5_1).f4.f1) == ((rd_T30 l1 x5_1).f4.f1)) || (!(((rd_T30 l0 x5_1).f4.f2) == ((rd_T30 l1 x5_1).f4.f2)) || (!(((rd_T30 l0 x5_1).f4.f3) == ((rd_T30 l1 x5_1).f4.f3)))))) = true
            ·rw [if_pos c18] at H
             have c18b0 : (!(((rd_T30 l0 x5_1).f4.f0) == ((rd_T30 l1 x5_1).f4.f0)) || (!(((rd_T30 l0 x5_1).f4.f1) == ((rd_T30 l1 x5_1).f4.f1)) || (!(((rd_T30 l0 x5_1).f4.f2) == ((rd_T30 l1 x5_1).f4.f2)) || (!(((rd_T30 l0 x5_1).f4.f3) == ((rd_T30 l1 x5_1).f4.f3)))))) = true := c18
             clear c18
             have H' := Aside0.mk H
             clear H
             try go_wp2
             replace HB := Aside0.mk (below_drew1 HB.out)
             have p208 : 0 ≤ (x5_1 : Int) := od_
             have q208 : x5_1 < (l0.length : Int) := od_
             obtain ⟨ad208, A208_2, c208_2, A208_3, c208_3, A208_4, c208_4, e208, hx208_0, hx208_1, hx208_2, hx208_3, hx208_4, hx208_5, hx208_6, hx208_7, hx208_8, hx208_9, hx208_10, hl208_2, hi208_2, hl208_3, hi208_3, hl208_4, hi208_4⟩ := at_T30 HR0.out x5_1 p208 q208
             have hw208_10 := hx208_10
             have hw208_9 := hx208_9
             have hw208_8 := hx208_8
             have hw208_7 := hx208_7
             have hw208_6 := hx208_6
             have hw208_5 := hx208_5
             have hw208_4 := hx208_4
             have hw208_3 := hx208_3
             have hw208_2 := hx208_2
             have hw208_1 := hx208_1
             have hw208_0 := hx208_0
             obtain rfl : ad202 = ad208 := (by injection e208)
             replace hx208_0 := hb_ HB hx208_0
             replace hx208_1 := hb_ HB hx208_1
             replace hx208_2 := hb_ HB hx208_2
             replace hx208_3 := hb_ HB hx208_3
             replace hx208_4 := hb_ HB hx208_4
             replace hx208_5 := hb_ HB hx208_5
             replace hx208_6 := hb_ HB hx208_6
             replace hx208_7 := hb_ HB hx208_7
             replace hx208_8 := hb_ HB hx208_8
             replace hx208_9 := hb_ HB hx208_9
             replace hx208_10 := hb_ HB hx208_10
             have HR208_2 := Aside0.mk hi208_2
             have HC208_2 := Aside0.mk hl208_2
             clear hi208_2 hl208_2
             have HR208_3 := Aside0.mk hi208_3
             have HC208_3 := Aside0.mk hl208_3
             clear hi208_3 hl208_3
             have HR208_4 := Aside0.mk hi208_4
             have HC208_4 := Aside0.mk hl208_4
             clear hi208_4 hl208_4
             replace p208 := eq_true p208
             replace q208 := eq_true q208
             have p209 : 0 ≤ (x5_1 : Int) := od_
             have q209 : x5_1 < (l1.length : Int) := od_
             obtain ⟨ad209, A209_2, c209_2, A209_3, c209_3, A209_4, c209_4, e209, hx209_0, hx209_1, hx209_2, hx209_3, hx209_4, hx209_5, hx209_6, hx209_7, hx209_8, hx209_9, hx209_10, hl209_2, hi209_2, hl209_3, hi209_3, hl209_4, hi209_4⟩ := at_T30 HR1.out x5_1 p209 q209
             have hw209_10 := hx209_10
             have hw209_9 := hx209_9
             have hw209_8 := hx209_8
             have hw209_7 := hx209_7
             have hw209_6 := hx209_6
             have hw209_5 := hx209_5
             have hw209_4 := hx209_4
             have hw209_3 := hx209_3
             have hw209_2 := hx209_2
             have hw209_1 := hx209_1
             have hw209_0 := hx209_0
             obtain rfl : ad203 = ad209 := (by injection e209)
             replace hx209_0 := hb_ HB hx209_0
             replace hx209_1 := hb_ HB hx209_1
             replace hx209_2 := hb_ HB hx209_2
             replace hx209_3 := hb_ HB hx209_3
             replace hx209_4 := hb_ HB hx209_4
             replace hx209_5 := hb_ HB hx209_5
             replace hx209_6 := hb_ HB hx209_6
             replace hx209_7 := hb_ HB hx209_7
             replace hx209_8 := hb_ HB hx209_8
             replace hx209_9 := hb_ HB hx209_9
             replace hx209_10 := hb_ HB hx209_10
             have HR209_2 := Aside0.mk hi209_2
             have HC209_2 := Aside0.mk hl209_2
             clear hi209_2 hl209_2
             have HR209_3 := Aside0.mk hi209_3
             have HC209_3 := Aside0.mk hl209_3
             clear hi209_3 hl209_3
             have HR209_4 := Aside0.mk hi209_4
             have HC209_4 := Aside0.mk hl209_4
             clear hi209_4 hl209_4
             replace p209 := eq_true p209
             replace q209 := eq_true q209
             have p210 : 0 ≤ (x5_1 : Int) := od_
             have q210 : x5_1 < (l0.length : Int) := od_
             obtain ⟨ad210, A210_2, c210_2, A210_3, c210_3, A210_4, c210_4, e210, hx210_0, hx210_1, hx210_2, hx210_3, hx210_4, hx210_5, hx210_6, hx210_7, hx210_8, hx210_9, hx210_10, hl210_2, hi210_2, hl210_3, hi210_3, hl210_4, hi210_4⟩ := at_T30 HR0.out x5_1 p210 q210
             have hw210_10 := hx210_10
             have hw210_9 := hx210_9
             have hw210_8 := hx210_8
             have hw210_7 := hx210_7
             have hw210_6 := hx210_6
             have hw210_5 := hx210_5
             have hw210_4 := hx210_4
             have hw210_3 := hx210_3
             have hw210_2 := hx210_2
             have hw210_1 := hx210_1
             have hw210_0 := hx210_0
             obtain rfl : ad202 = ad210 := (by injection e210)
             replace hx210_0 := hb_ HB hx210_0
             replace hx210_1 := hb_ HB hx210_1
             replace hx210_2 := hb_ HB hx210_2
             replace hx210_3 := hb_ HB hx210_3
             replace hx210_4 := hb_ HB hx210_4
             replace hx210_5 := hb_ HB hx210_5
             replace hx210_6 := hb_ HB hx210_6
             replace hx210_7 := hb_ HB hx210_7
             replace hx210_8 := hb_ HB hx210_8
             replace hx210_9 := hb_ HB hx210_9
             replace hx210_10 := hb_ HB hx210_10
             have HR210_2 := Aside0.mk hi210_2
             have HC210_2 := Aside0.mk hl210_2
             clear hi210_2 hl210_2
             have HR210_3 := Aside0.mk hi210_3
             have HC210_3 := Aside0.mk hl210_3
             clear hi210_3 hl210_3
             have HR210_4 := Aside0.mk hi210_4
             have HC210_4 := Aside0.mk hl210_4
             clear hi210_4 hl210_4
             replace p210 := eq_true p210
             replace q210 := eq_true q210
             have ea_ := Option.some.inj (hx208_2.symm.trans hx210_2)
             injection ea_ with ea_ en_ ec_
             subst ea_
             subst ec_
             clear en_
             have ea_ := Option.some.inj (hx208_3.symm.trans hx210_3)
             injection ea_ with ea_ en_ ec_
             subst ea_
             subst ec_
             clear en_
             have ea_ := Option.some.inj (hx208_4.symm.trans hx210_4)
             injection ea_ with ea_ en_ ec_
             subst ea_
             subst ec_
             clear en_
             have p211 : 0 ≤ (x5_1 : Int) := od_
             have q211 : x5_1 < (l1.length : Int) := od_
             obtain ⟨ad211, A211_2, c211_2, A211_3, c211_3, A211_4, c211_4, e211, hx211_0, hx211_1, hx211_2, hx211_3, hx211_4, hx211_5, hx211_6, hx211_7, hx211_8, hx211_9, hx211_10, hl211_2, hi211_2, hl211_3, hi211_3, hl211_4, hi211_4⟩ := at_T30 HR1.out x5_1 p211 q211
             have hw211_10 := hx211_10
             have hw211_9 := hx211_9
             have hw211_8 := hx211_8
             have hw211_7 := hx211_7
             have hw211_6 := hx211_6
             have hw211_5 := hx211_5
             have hw211_4 := hx211_4
             have hw211_3 := hx211_3
             have hw211_2 := hx211_2
             have hw211_1 := hx211_1
             have hw211_0 := hx211_0
             obtain rfl : ad203 = ad211 := (by injection e211)
             replace hx211_0 := hb_ HB hx211_0
             replace hx211_1 := hb_ HB hx211_1
             replace hx211_2 := hb_ HB hx211_2
             replace hx211_3 := hb_ HB hx211_3
             replace hx211_4 := hb_ HB hx211_4
             replace hx211_5 := hb_ HB hx211_5
             replace hx211_6 := hb_ HB hx211_6
             replace hx211_7 := hb_ HB hx211_7
             replace hx211_8 := hb_ HB hx211_8
             replace hx211_9 := hb_ HB hx211_9
             replace hx211_10 := hb_ HB hx211_10
             have HR211_2 := Aside0.mk hi211_2
             have HC211_2 := Aside0.mk hl211_2
             clear hi211_2 hl211_2
             have HR211_3 := Aside0.mk hi211_3
             have HC211_3 := Aside0.mk hl211_3
             clear hi211_3 hl211_3
             have HR211_4 := Aside0.mk hi211_4
             have HC211_4 := Aside0.mk hl211_4
             clear hi211_4 hl211_4
             replace p211 := eq_true p211
             replace q211 := eq_true q211
             have ea_ := Option.some.inj (hx209_2.symm.trans hx211_2)
             injection ea_ with ea_ en_ ec_
             subst ea_
             subst ec_
             clear en_
             have ea_ := Option.some.inj (hx209_3.symm.trans hx211_3)
             injection ea_ with ea_ en_ ec_
             subst ea_
             subst ec_
             clear en_
             have ea_ := Option.some.inj (hx209_4.symm.trans hx211_4)
             injection ea_ with ea_ en_ ec_
             subst ea_
             subst ec_
             clear en_
             have p212 : 0 ≤ (x5_1 : Int) := od_
             have q212 : x5_1 < (l0.length : Int) := od_
             obtain ⟨ad212, A212_2, c212_2, A212_3, c212_3, A212_4, c212_4, e212, hx212_0, hx212_1, hx212_2, hx212_3, hx212_4, hx212_5, hx212_6, hx212_7, hx212_8, hx212_9, hx212_10, hl212_2, hi212_2, hl212_3, hi212_3, hl212_4, hi212_4⟩ := at_T30 HR0.out x5_1 p212 q212
             have hw212_10 := hx212_10
             have hw212_9 := hx212_9
             have hw212_8 := hx212_8
             have hw212_7 := hx212_7
             have hw212_6 := hx212_6
             have hw212_5 := hx212_5
             have hw212_4 := hx212_4
             have hw212_3 := hx212_3
             have hw212_2 := hx212_2
             have hw212_1 := hx212_1
             have hw212_0 := hx212_0
             obtain rfl : ad202 = ad212 := (by injection e212)
             replace hx212_0 := hb_ HB hx212_0
             replace hx212_1 := hb_ HB hx212_1
             replace hx212_2 := hb_ HB hx212_2
             replace hx212_3 := hb_ HB hx212_3
             replace hx212_4 := hb_ HB hx212_4
             replace hx212_5 := hb_ HB hx212_5
             replace hx212_6 := hb_ HB hx212_6
             replace hx212_7 := hb_ HB hx212_7
             replace hx212_8 := hb_ HB hx212_8
             replace hx212_9 := hb_ HB hx212_9
             replace hx212_10 := hb_ HB hx212_10
             have HR212_2 := Aside0.mk hi212_2
             have HC212_2 := Aside0.mk hl212_2
             clear hi212_2 hl212_2
             have HR212_3 := Aside0.mk hi212_3
             have HC212_3 := Aside0.mk hl212_3
             clear hi212_3 hl212_3
             have HR212_4 := Aside0.mk hi212_4
             have HC212_4 := Aside0.mk hl212_4
             clear hi212_4 hl212_4
             replace p212 := eq_true p212
             replace q212 := eq_true q212
             have ea_ := Option.some.inj (hx208_2.symm.trans hx212_2)
             injection ea_ with ea_ en_ ec_
             subst ea_
             subst ec_
             clear en_
             have ea_ := Option.some.inj (hx208_3.symm.trans hx212_3)
             injection ea_ with ea_ en_ ec_
             subst ea_
             subst ec_
             clear en_
             have ea_ := Option.some.inj (hx208_4.symm.trans hx212_4)
             injection ea_ with ea_ en_ ec_
             subst ea_
             subst ec_
             clear en_
             have p213 : 0 ≤ (x5_1 : Int) := od_
             have q213 : x5_1 < (l1.length : Int) := od_
             obtain ⟨ad213, A213_2, c213_2, A213_3, c213_3, A213_4, c213_4, e213, hx213_0, hx213_1, hx213_2, hx213_3, hx213_4, hx213_5, hx213_6, hx213_7, hx213_8, hx213_9, hx213_10, hl213_2, hi213_2, hl213_3, hi213_3, hl213_4, hi213_4⟩ := at_T30 HR1.out x5_1 p213 q213
             have hw213_10 := hx213_10
             have hw213_9 := hx213_9
             have hw213_8 := hx213_8
             have hw213_7 := hx213_7
             have hw213_6 := hx213_6
             have hw213_5 := hx213_5
             have hw213_4 := hx213_4
             have hw213_3 := hx213_3
             have hw213_2 := hx213_2
             have hw213_1 := hx213_1
             have hw213_0 := hx213_0
             obtain rfl : ad203 = ad213 := (by injection e213)
             replace hx213_0 := hb_ HB hx213_0
             replace hx213_1 := hb_ HB hx213_1
             replace hx213_2 := hb_ HB hx213_2
             replace hx213_3 := hb_ HB hx213_3
             replace hx213_4 := hb_ HB hx213_4
             replace hx213_5 := hb_ HB hx213_5
             replace hx213_6 := hb_ HB hx213_6
             replace hx213_7 := hb_ HB hx213_7
             replace hx213_8 := hb_ HB hx213_8
             replace hx213_9 := hb_ HB hx213_9
             replace hx213_10 := hb_ HB hx213_10
             have HR213_2 := Aside0.mk hi213_2
             have HC213_2 := Aside0.mk hl213_2
             clear hi213_2 hl213_2
             have HR213_3 := Aside0.mk hi213_3
             have HC213_3 := Aside0.mk hl213_3
             clear hi213_3 hl213_3
             have HR213_4 := Aside0.mk hi213_4
             have HC213_4 := Aside0.mk hl213_4
             clear hi213_4 hl213_4
             replace p213 := eq_true p213
             replace q213 := eq_true q213
             have ea_ := Option.some.inj (hx209_2.symm.trans hx213_2)
             injection ea_ with ea_ en_ ec_
             subst ea_
             subst ec_
             clear en_
             have ea_ := Option.some.inj (hx209_3.symm.trans hx213_3)
             injection ea_ with ea_ en_ ec_
             subst ea_
             subst ec_
             clear en_
             have ea_ := Option.some.inj (hx209_4.symm.trans hx213_4)
             injection ea_ with ea_ en_ ec_
             subst ea_
             subst ec_
             clear en_
             refine start_ (n := 71) (S := fun w' => w'.cell? (ad202.add ((x5_1).toNat * 11)) = some (.int .i64 ((rd_T30 l0 x5_1).f0)) ∧ w'.cell? ⟨(ad202.add ((x5_1).toNat * 11)).block, (ad202.add ((x5_1).toNat * 11)).off + 1, none⟩ = some (.int .i64 ((rd_T30 l0 x5_1).f1)) ∧ w'.cell? ⟨(ad202.add ((x5_1).toNat * 11)).block, (ad202.add ((x5_1).toNat * 11)).off + 2, none⟩ = some (.slice A208_2 ((rd_T30 l0 x5_1).f2).length c208_2) ∧ w'.cell? ⟨(ad202.add ((x5_1).toNat * 11)).block, (ad202.add ((x5_1).toNat * 11)).off + 3, none⟩ = some (.slice A208_3 ((rd_T30 l0 x5_1).f3.f0).length c208_3) ∧ w'.cell? ⟨(ad202.add ((x5_1).toNat * 11)).block, (ad202.add ((x5_1).toNat * 11)).off + 4, none⟩ = some (.slice A208_4 ((rd_T30 l0 x5_1).f3.f1).length c208_4) ∧ w'.cell? ⟨(ad202.add ((x5_1).toNat * 11)).block, (ad202.add ((x5_1).toNat * 11)).off + 5, none⟩ = some (.int .i64 ((rd_T30 l0 x5_1).f4.f0)) ∧ w'.cell? ⟨(ad202.add ((x5_1).toNat * 11)).block, (ad202.add ((x5_1).toNat * 11)).off + 6, none⟩ = some (.int .i64 ((rd_T30 l0 x5_1).f4.f1)) ∧ w'.cell? ⟨(ad202.add ((x5_1).toNat * 11)).block, (ad202.add ((x5_1).toNat * 11)).off + 7, none⟩ = some (.int .i64 ((rd_T30 l0 x5_1).f4.f2)) ∧ w'.cell? ⟨(ad202.add ((x5_1).toNat * 11)).block, (ad202.add ((x5_1).toNat * 11)).off + 8, none⟩ = some (.int .i64 ((rd_T30 l0 x5_1).f4.f3)) ∧ w'.cell? ⟨(ad202.add ((x5_1).toNat * 11)).block, (ad202.add ((x5_1).toNat * 11)).off + 9, none⟩ = some (.int .i64 ((rd_T30 l0 x5_1).f5)) ∧ w'.cell? ⟨(ad202.add ((x5_1).toNat * 11)).block, (ad202.add ((x5_1).toNat * 11)).off + 10, none⟩ = some (.int .i64 ((rd_T30 l0 x5_1).f6)) ∧ w'.cell? (ad203.add ((x5_1).toNat * 11)) = some (.int .i64 ((rd_T30 l1 x5_1).f0)) ∧ w'.cell? ⟨(ad203.add ((x5_1).toNat * 11)).block, (ad203.add ((x5_1).toNat * 11)).off + 1, none⟩ = some (.int .i64 ((rd_T30 l1 x5_1).f1)) ∧ w'.cell? ⟨(ad203.add ((x5_1).toNat * 11)).block, (ad203.add ((x5_1).toNat * 11)).off + 2, none⟩ = some (.slice A209_2 ((rd_T30 l1 x5_1).f2).length c209_2) ∧ w'.cell? ⟨(ad203.add ((x5_1).toNat * 11)).block, (ad203.add ((x5_1).toNat * 11)).off + 3, none⟩ = some (.slice A209_3 ((rd_T30 l1 x5_1).f3.f0).length c209_3) ∧ w'.cell? ⟨(ad203.add ((x5_1).toNat * 11)).block, (ad203.add ((x5_1).toNat * 11)).off + 4, none⟩ = some (.slice A209_4 ((rd_T30 l1 x5_1).f3.f1).length c209_4) ∧ w'.cell? ⟨(ad203.add ((x5_1).toNat * 11)).block, (ad203.add ((x5_1).toNat * 11)).off + 5, none⟩ = some (.int .i64 ((rd_T30 l1 x5_1).f4.f0)) ∧ w'.cell? ⟨(ad203.add ((x5_1).toNat * 11)).block, (ad203.add ((x5_1).toNat * 11)).off + 6, none⟩ = some (.int .i64 ((rd_T30 l1 x5_1).f4.f1)) ∧ w'.cell? ⟨(ad203.add ((x5_1).toNat * 11)).block, (ad203.add ((x5_1).toNat * 11)).off + 7, none⟩ = some (.int .i64 ((rd_T30 l1 x5_1).f4.f2)) ∧ w'.cell? ⟨(ad203.add ((x5_1).toNat * 11)).block, (ad203.add ((x5_1).toNat * 11)).off + 8, none⟩ = some (.int .i64 ((rd_T30 l1 x5_1).f4.f3)) ∧ w'.cell? ⟨(ad203.add ((x5_1).toNat * 11)).block, (ad203.add ((x5_1).toNat * 11)).off + 9, none⟩ = some (.int .i64 ((rd_T30 l1 x5_1).f5)) ∧ w'.cell? ⟨(ad203.add ((x5_1).toNat * 11)).block, (ad203.add ((x5_1).toNat * 11)).off + 10, none⟩ = some (.int .i64 ((rd_T30 l1 x5_1).f6)) ∧ w'.cell? (ad202.add ((x5_1).toNat * 11)) = some (.int .i64 ((rd_T30 l0 x5_1).f0)) ∧ w'.cell? ⟨(ad202.add ((x5_1).toNat * 11)).block, (ad202.add ((x5_1).toNat * 11)).off + 1, none⟩ = some (.int .i64 ((rd_T30 l0 x5_1).f1)) ∧ w'.cell? ⟨(ad202.add ((x5_1).toNat * 11)).block, (ad202.add ((x5_1).toNat * 11)).off + 2, none⟩ = some (.slice A208_2 ((rd_T30 l0 x5_1).f2).length c208_2) ∧ w'.cell? ⟨(ad202.add ((x5_1).toNat * 11)).block, (ad202.add ((x5_1).toNat * 11)).off + 3, none⟩ = some (.slice A208_3 ((rd_T30 l0 x5_1).f3.f0).length c208_3) ∧ w'.cell? ⟨(ad202.add ((x5_1).toNat * 11)).block, (ad202.add ((x5_1).toNat * 11)).off + 4, none⟩ = some (.slice A208_4 ((rd_T30 l0 x5_1).f3.f1).length c208_4) ∧ w'.cell? ⟨(ad202.add ((x5_1).toNat * 11)).block, (ad202.add ((x5_1).toNat * 11)).off + 5, none⟩ = some (.int .i64 ((rd_T30 l0 x5_1).f4.f0)) ∧ w'.cell? ⟨(ad202.add ((x5_1).toNat * 11)).block, (ad202.add ((x5_1).toNat * 11)).off + 6, none⟩ = some (.int .i64 ((rd_T30 l0 x5_1).f4.f1)) ∧ w'.cell? ⟨(ad202.add ((x5_1).toNat * 11)).block, (ad202.add ((x5_1).toNat * 11)).off + 7, none⟩ = some (.int .i64 ((rd_T30 l0 x5_1).f4.f2)) ∧ w'.cell? ⟨(ad202.add ((x5_1).toNat * 11)).block, (ad202.add ((x5_1).toNat * 11)).off + 8, none⟩ = some (.int .i64 ((rd_T30 l0 x5_1).f4.f3)) ∧ w'.cell? ⟨(ad202.add ((x5_1).toNat * 11)).block, (ad202.add ((x5_1).toNat * 11)).off + 9, none⟩ = some (.int .i64 ((rd_T30 l0 x5_1).f5)) ∧ w'.cell? ⟨(ad202.add ((x5_1).toNat * 11)).block, (ad202.add ((x5_1).toNat * 11)).off + 10, none⟩ = some (.int .i64 ((rd_T30 l0 x5_1).f6)) ∧ w'.cell? (ad203.add ((x5_1).toNat * 11)) = some (.int .i64 ((rd_T30 l1 x5_1).f0)) ∧ w'.cell? ⟨(ad203.add ((x5_1).toNat * 11)).block, (ad203.add ((x5_1).toNat * 11)).off + 1, none⟩ = some (.int .i64 ((rd_T30 l1 x5_1).f1)) ∧ w'.cell? ⟨(ad203.add ((x5_1).toNat * 11)).block, (ad203.add ((x5_1).toNat * 11)).off + 2, none⟩ = some (.slice A209_2 ((rd_T30 l1 x5_1).f2).length c209_2) ∧ w'.cell? ⟨(ad203.add ((x5_1).toNat * 11)).block, (ad203.add ((x5_1).toNat * 11)).off + 3, none⟩ = some (.slice A209_3 ((rd_T30 l1 x5_1).f3.f0).length c209_3) ∧ w'.cell? ⟨(ad203.add ((x5_1).toNat * 11)).block, (ad203.add ((x5_1).toNat * 11)).off + 4, none⟩ = some (.slice A209_4 ((rd_T30 l1 x5_1).f3.f1).length c209_4) ∧ w'.cell? ⟨(ad203.add ((x5_1).toNat * 11)).block, (ad203.add ((x5_1).toNat * 11)).off + 5, none⟩ = some (.int .i64 ((rd_T30 l1 x5_1).f4.f0)) ∧ w'.cell? ⟨(ad203.add ((x5_1).toNat * 11)).block, (ad203.add ((x5_1).toNat * 11)).off + 6, none⟩ = some (.int .i64 ((rd_T30 l1 x5_1).f4.f1)) ∧ w'.cell? ⟨(ad203.add ((x5_1).toNat * 11)).block, (ad203.add ((x5_1).toNat * 11)).off + 7, none⟩ = some (.int .i64 ((rd_T30 l1 x5_1).f4.f2)) ∧ w'.cell? ⟨(ad203.add ((x5_1).toNat * 11)).block, (ad203.add ((x5_1).toNat * 11)).off + 8, none⟩ = some (.int .i64 ((rd_T30 l1 x5_1).f4.f3)) ∧ w'.cell? ⟨(ad203.add ((x5_1).toNat * 11)).block, (ad203.add ((x5_1).toNat * 11)).off + 9, none⟩ = some (.int .i64 ((rd_T30 l1 x5_1).f5)) ∧ w'.cell? ⟨(ad203.add ((x5_1).toNat * 11)).block, (ad203.add ((x5_1).toNat * 11)).off + 10, none⟩ = some (.int .i64 ((rd_T30 l1 x5_1).f6)) ∧ w'.cell? (ad202.add ((x5_1).toNat * 11)) = some (.int .i64 ((rd_T30 l0 x5_1).f0)) ∧ w'.cell? ⟨(ad202.add ((x5_1).toNat * 11)).block, (ad202.add ((x5_1).toNat * 11)).off + 1, none⟩ = some (.int .i64 ((rd_T30 l0 x5_1).f1)) ∧ w'.cell? ⟨(ad202.add ((x5_1).toNat * 11)).block, (ad202.add ((x5_1).toNat * 11)).off + 2, none⟩ = some (.slice A208_2 ((rd_T30 l0 x5_1).f2).length c208_2) ∧ w'.cell? ⟨(ad202.add ((x5_1).toNat * 11)).block, (ad202.add ((x5_1).toNat * 11)).off + 3, none⟩ = some (.slice A208_3 ((rd_T30 l0 x5_1).f3.f0).length c208_3) ∧ w'.cell? ⟨(ad202.add ((x5_1).toNat * 11)).block, (ad202.add ((x5_1).toNat * 11)).off + 4, none⟩ = some (.slice A208_4 ((rd_T30 l0 x5_1).f3.f1).length c208_4) ∧ w'.cell? ⟨(ad202.add ((x5_1).toNat * 11)).block, (ad202.add ((x5_1).toNat * 11)).off + 5, none⟩ = some (.int .i64 ((rd_T30 l0 x5_1).f4.f0)) ∧ w'.cell? ⟨(ad202.add ((x5_1).toNat * 11)).block, (ad202.add ((x5_1).toNat * 11)).off + 6, none⟩ = some (.int .i64 ((rd_T30 l0 x5_1).f4.f1)) ∧ w'.cell? ⟨(ad202.add ((x5_1).toNat * 11)).block, (ad202.add ((x5_1).toNat * 11)).off + 7, none⟩ = some (.int .i64 ((rd_T30 l0 x5_1).f4.f2)) ∧ w'.cell? ⟨(ad202.add ((x5_1).toNat * 11)).block, (ad202.add ((x5_1).toNat * 11)).off + 8, none⟩ = some (.int .i64 ((rd_T30 l0 x5_1).f4.f3)) ∧ w'.cell? ⟨(ad202.add ((x5_1).toNat * 11)).block, (ad202.add ((x5_1).toNat * 11)).off + 9, none⟩ = some (.int .i64 ((rd_T30 l0 x5_1).f5)) ∧ w'.cell? ⟨(ad202.add ((x5_1).toNat * 11)).block, (ad202.add ((x5_1).toNat * 11)).off + 10, none⟩ = some (.int .i64 ((rd_T30 l0 x5_1).f6)) ∧ w'.cell? (ad203.add ((x5_1).toNat * 11)) = some (.int .i64 ((rd_T30 l1 x5_1).f0)) ∧ w'.cell? ⟨(ad203.add ((x5_1).toNat * 11)).block, (ad203.add ((x5_1).toNat * 11)).off + 1, none⟩ = some (.int .i64 ((rd_T30 l1 x5_1).f1)) ∧ w'.cell? ⟨(ad203.add ((x5_1).toNat * 11)).block, (ad203.add ((x5_1).toNat * 11)).off + 2, none⟩ = some (.slice A209_2 ((rd_T30 l1 x5_1).f2).length c209_2) ∧ w'.cell? ⟨(ad203.add ((x5_1).toNat * 11)).block, (ad203.add ((x5_1).toNat * 11)).off + 3, none⟩ = some (.slice A209_3 ((rd_T30 l1 x5_1).f3.f0).length c209_3) ∧ w'.cell? ⟨(ad203.add ((x5_1).toNat * 11)).block, (ad203.add ((x5_1).toNat * 11)).off + 4, none⟩ = some (.slice A209_4 ((rd_T30 l1 x5_1).f3.f1).length c209_4) ∧ w'.cell? ⟨(ad203.add ((x5_1).toNat * 11)).block, (ad203.add ((x5_1).toNat * 11)).off + 5, none⟩ = some (.int .i64 ((rd_T30 l1 x5_1).f4.f0)) ∧ w'.cell? ⟨(ad203.add ((x5_1).toNat * 11)).block, (ad203.add ((x5_1).toNat * 11)).off + 6, none⟩ = some (.int .i64 ((rd_T30 l1 x5_1).f4.f1)) ∧ w'.cell? ⟨(ad203.add ((x5_1).toNat * 11)).block, (ad203.add ((x5_1).toNat * 11)).off + 7, none⟩ = some (.int .i64 ((rd_T30 l1 x5_1).f4.f2)) ∧ w'.cell? ⟨(ad203.add ((x5_1).toNat * 11)).block, (ad203.add ((x5_1).toNat * 11)).off + 8, none⟩ = some (.int .i64 ((rd_T30 l1 x5_1).f4.f3)) ∧ w'.cell? ⟨(ad203.add ((x5_1).toNat * 11)).block, (ad203.add ((x5_1).toNat * 11)).off + 9, none⟩ = some (.int .i64 ((rd_T30 l1 x5_1).f5)) ∧ w'.cell? ⟨(ad203.add ((x5_1).toNat * 11)).block, (ad203.add ((x5_1).toNat * 11)).off + 10, none⟩ = some (.int .i64 ((rd_T30 l1 x5_1).f6))) (ds := []) L14_13 (by kernel_rfl) rfl rfl ⟨((HB.out.cell (World.block_lt_of_cell? w _ hw208_0)).trans hw208_0), ((HB.out.cell (World.block_lt_of_cell? w _ hw208_1)).trans hw208_1), ((HB.out.cell (World.block_lt_of_cell? w _ hw208_2)).trans hw208_2), ((HB.out.cell (World.block_lt_of_cell? w _ hw208_3)).trans hw208_3), ((HB.out.cell (World.block_lt_of_cell? w _ hw208_4)).trans hw208_4), ((HB.out.cell (World.block_lt_of_cell? w _ hw208_5)).trans hw208_5), ((HB.out.cell (World.block_lt_of_cell? w _ hw208_6)).trans hw208_6), ((HB.out.cell (World.block_lt_of_cell? w _ hw208_7)).trans hw208_7), ((HB.out.cell (World.block_lt_of_cell? w _ hw208_8)).trans hw208_8), ((HB.out.cell (World.block_lt_of_cell? w _ hw208_9)).trans hw208_9), ((HB.out.cell (World.block_lt_of_cell? w _ hw208_10)).trans hw208_10), ((HB.out.cell (World.block_lt_of_cell? w _ hw209_0)).trans hw209_0), ((HB.out.cell (World.block_lt_of_cell? w _ hw209_1)).trans hw209_1), ((HB.out.cell (World.block_lt_of_cell? w _ hw209_2)).trans hw209_2), ((HB.out.cell (World.block_lt_of_cell? w _ hw209_3)).trans hw209_3), ((HB.out.cell (World.block_lt_of_cell? w _ hw209_4)).trans hw209_4), ((HB.out.cell (World.block_lt_of_cell? w _ hw209_5)).trans hw209_5), ((HB.out.cell (World.block_lt_of_cell? w _ hw209_6)).trans hw209_6), ((HB.out.cell (World.block_lt_of_cell? w _ hw209_7)).trans hw209_7), ((HB.out.cell (World.block_lt_of_cell? w _ hw209_8)).trans hw209_8), ((HB.out.cell (World.block_lt_of_cell? w _ hw209_9)).trans hw209_9), ((HB.out.cell (World.block_lt_of_cell? w _ hw209_10)).trans hw209_10), ((HB.out.cell (World.block_lt_of_cell? w _ hw210_0)).trans hw210_0), ((HB.out.cell (World.block_lt_of_cell? w _ hw210_1)).trans hw210_1), ((HB.out.cell (World.block_lt_of_cell? w _ hw210_2)).trans hw210_2), ((HB.out.cell (World.block_lt_of_cell? w _ hw210_3)).trans hw210_3), ((HB.out.cell (World.block_lt_of_cell? w _ hw210_4)).trans hw210_4), ((HB.out.cell (World.block_lt_of_cell? w _ hw210_5)).trans hw210_5), ((HB.out.cell (World.block_lt_of_cell? w _ hw210_6)).trans hw210_6), ((HB.out.cell (World.block_lt_of_cell? w _ hw210_7)).trans hw210_7), ((HB.out.cell (World.block_lt_of_cell? w _ hw210_8)).trans hw210_8), ((HB.out.cell (World.block_lt_of_cell? w _ hw210_9)).trans hw210_9), ((HB.out.cell (World.block_lt_of_cell? w _ hw210_10)).trans hw210_10), ((HB.out.cell (World.block_lt_of_cell? w _ hw211_0)).trans hw211_0), ((HB.out.cell (World.block_lt_of_cell? w _ hw211_1)).trans hw211_1), ((HB.out.cell (World.block_lt_of_cell? w _ hw211_2)).trans hw211_2), ((HB.out.cell (World.block_lt_of_cell? w _ hw211_3)).trans hw211_3), ((HB.out.cell (World.block_lt_of_cell? w _ hw211_4)).trans hw211_4), ((HB.out.cell (World.block_lt_of_cell? w _ hw211_5)).trans hw211_5), ((HB.out.cell (World.block_lt_of_cell? w _ hw211_6)).trans hw211_6), ((HB.out.cell (World.block_lt_of_cell? w _ hw211_7)).trans hw211_7), ((HB.out.cell (World.block_lt_of_cell? w _ hw211_8)).trans hw211_8), ((HB.out.cell (World.block_lt_of_cell? w _ hw211_9)).trans hw211_9), ((HB.out.cell (World.block_lt_of_cell? w _ hw211_10)).trans hw211_10), ((HB.out.cell (World.block_lt_of_cell? w _ hw212_0)).trans hw212_0), ((HB.out.cell (World.block_lt_of_cell? w _ hw212_1)).trans hw212_1), ((HB.out.cell (World.block_lt_of_cell? w _ hw212_2)).trans hw212_2), ((HB.out.cell (World.block_lt_of_cell? w _ hw212_3)).trans hw212_3), ((HB.out.cell (World.block_lt_of_cell? w _ hw212_4)).trans hw212_4), ((HB.out.cell (World.block_lt_of_cell? w _ hw212_5)).trans hw212_5), ((HB.out.cell (World.block_lt_of_cell? w _ hw212_6)).trans hw212_6), ((HB.out.cell (World.block_lt_of_cell? w _ hw212_7)).trans hw212_7), ((HB.out.cell (World.block_lt_of_cell? w _ hw212_8)).trans hw212_8), ((HB.out.cell (World.block_lt_of_cell? w _ hw212_9)).trans hw212_9), ((HB.out.cell (World.block_lt_of_cell? w _ hw212_10)).trans hw212_10), ((HB.out.cell (World.block_lt_of_cell? w _ hw213_0)).trans hw213_0), ((HB.out.cell (World.block_lt_of_cell? w _ hw213_1)).trans hw213_1), ((HB.out.cell (World.block_lt_of_cell? w _ hw213_2)).trans hw213_2), ((HB.out.cell (World.block_lt_of_cell? w _ hw213_3)).trans hw213_3), ((HB.out.cell (World.block_lt_of_cell? w _ hw213_4)).trans hw213_4), ((HB.out.cell (World.block_lt_of_cell? w _ hw213_5)).trans hw213_5), ((HB.out.cell (World.block_lt_of_cell? w _ hw213_6)).trans hw213_6), ((HB.out.cell (World.block_lt_of_cell? w _ hw213_7)).trans hw213_7), ((HB.out.cell (World.block_lt_of_cell? w _ hw213_8)).trans hw213_8), ((HB.out.cell (World.block_lt_of_cell? w _ hw213_9)).trans hw213_9), ((HB.out.cell (World.block_lt_of_cell? w _ hw213_10)).trans hw213_10)⟩ (fun hHeld => ?_); refine with_tabW fullerref23_Same.tab8 fullerref23_Same.bits8 (fun HT_ HW_ => ?_)
             generalize w13.drew = w19 at HB HR208_2 HR208_3 HR208_4 HR209_2 HR209_3 HR209_4 HR210_2 HR210_3 HR210_4 HR211_2 HR211_3 HR211_4 HR212_2 HR212_3 HR212_4 HR213_2 HR213_3 HR213_4 hx208_0 hx208_1 hx208_10 hx208_2 hx208_3 hx208_4 hx208_5 hx208_6 hx208_7 hx208_8 hx208_9 hx209_0 hx209_1 hx209_10 hx209_2 hx209_3 hx209_4 hx209_5 hx209_6 hx209_7 hx209_8 hx209_9 hx210_0 hx210_1 hx210_10 hx210_2 hx210_3 hx210_4 hx210_5 hx210_6 hx210_7 hx210_8 hx210_9 hx211_0 hx211_1 hx211_10 hx211_2 hx211_3 hx211_4 hx211_5 hx211_6 hx211_7 hx211_8 hx211_9 hx212_0 hx212_1 hx212_10 hx212_2 hx212_3 hx212_4 hx212_5 hx212_6 hx212_7 hx212_8 hx212_9 hx213_0 hx213_1 hx213_10 hx213_2 hx213_3 hx213_4 hx213_5 hx213_6 hx213_7 hx213_8 hx213_9 hHeld ⊢
             refine pu_ 0 (some 41) L14_14 HT_ ?_
             refine pu_ 1 (some 42) L14_15 HT_ ?_
             refine pu_ 2 (some 43) L14_16 HT_ ?_
             refine pu_ 3 (some 44) L14_17 HT_ ?_
             refine pu_ 4 (some 45) L14_18 HT_ ?_
             refine pu_ 5 (some 46) L14_19 HT_ ?_
             refine pu_ 6 (some 47) L14_20 HT_ ?_
             refine pu_ 7 (some 48) L14_21 HT_ ?_
             refine pu_ 8 (some 49) L14_22 HT_ ?_
             refine pu_ 9 (some 50) L14_23 HT_ ?_
             refine pu_ 10 (some 51) L14_24 HT_ ?_
             refine pu_ 12 (some 53) L14_25 HT_ ?_
             refine pu_ 13 (some 54) L14_26 HT_ ?_
             refine pu_ 14 (some 55) L14_27 HT_ ?_
             refine pu_ 15 (some 56) L14_28 HT_ ?_
             refine ta_ 11 (some 52) L14_29 HT_ HW_ hHeld ?_ (hy := by rintro w' ⟨s0, s1, s2, s3, s4, s5, s6, s7, s8, s9, s10, s11, s12, s13, s14, s15, s16, s17, s18, s19, s20, s21, s22, s23, s24, s25, s26, s27, s28, s29, s30, s31, s32, s33, s34, s35, s36, s37, s38, s39, s40, s41, s42, s43, s44, s45, s46, s47, s48, s49, s50, s51, s52, s53, s54, s55, s56, s57, s58, s59, s60, s61, s62, s63, s64, s65⟩; go_simp; with_reducible rfl)
             refine ta_ 16 (some 57) L14_30 HT_ HW_ hHeld ?_ (hy := by rintro w' ⟨s0, s1, s2, s3, s4, s5, s6, s7, s8, s9, s10, s11, s12, s13, s14, s15, s16, s17, s18, s19, s20, s21, s22, s23, s24, s25, s26, s27, s28, s29, s30, s31, s32, s33, s34, s35, s36, s37, s38, s39, s40, s41, s42, s43, s44, s45, s46, s47, s48, s49, s50, s51, s52, s53, s54, s55, s56, s57, s58, s59, s60, s61, s62, s63, s64, s65⟩; go_simp; with_reducible rfl)
             refine pu_ 17 (some 58) L14_31 HT_ ?_
             refine pu_ 18 (some 59) L14_32 HT_ ?_
             refine pu_ 19 (some 60) L14_33 HT_ ?_
             refine pu_ 20 (some 61) L14_34 HT_ ?_
             refine pu_ 21 (some 62) L14_35 HT_ ?_
             refine pu_ 22 (some 63) L14_36 HT_ ?_
             refine pu_ 23 (some 64) L14_37 HT_ ?_
             refine pu_ 25 (some 66) L14_38 HT_ ?_
             refine pu_ 26 (some 67) L14_39 HT_ ?_
             refine pu_ 27 (some 68) L14_40 HT_ ?_
             refine pu_ 28 (some 69) L14_41 HT_ ?_
             refine ta_ 24 (some 65) L14_42 HT_ HW_ hHeld ?_ (hy := by rintro w' ⟨s0, s1, s2, s3, s4, s5, s6, s7, s8, s9, s10, s11, s12, s13, s14, s15, s16, s17, s18, s19, s20, s21, s22, s23, s24, s25, s26, s27, s28, s29, s30, s31, s32, s33, s34, s35, s36, s37, s38, s39, s40, s41, s42, s43, s44, s45, s46, s47, s48, s49, s50, s51, s52, s53, s54, s55, s56, s57, s58, s59, s60, s61, s62, s63, s64, s65⟩; go_simp; with_reducible rfl)
             refine ta_ 29 (some 70) L14_43 HT_ HW_ hHeld ?_ (hy := by rintro w' ⟨s0, s1, s2, s3, s4, s5, s6, s7, s8, s9, s10, s11, s12, s13, s14, s15, s16, s17, s18, s19, s20, s21, s22, s23, s24, s25, s26, s27, s28, s29, s30, s31, s32, s33, s34, s35, s36, s37, s38, s39, s40, s41, s42, s43, s44, s45, s46, s47, s48, s49, s50, s51, s52, s53, s54, s55, s56, s57, s58, s59, s60, s61, s62, s63, s64, s65⟩; go_simp; with_reducible rfl)
             refine pu_ 30 (some 71) L14_44 HT_ ?_
             refine pu_ 31 (some 72) L14_45 HT_ ?_
             refine pu_ 32 (some 73) L14_46 HT_ ?_
             refine pu_ 33 (some 74) L14_47 HT_ ?_
             refine pu_ 34 (some 75) L14_48 HT_ ?_
             refine pu_ 35 (some 76) L14_49 HT_ ?_
             refine pu_ 36 (some 77) L14_50 HT_ ?_
             refine pu_ 38 (some 79) L14_51 HT_ ?_
             refine pu_ 39 (some 80) L14_52 HT_ ?_
             refine pu_ 40 (some 81) L14_53 HT_ ?_
             refine pu_ 41 (some 82) L14_54 HT_ ?_
             refine ta_ 37 (some 78) L14_55 HT_ HW_ hHeld ?_ (hy := by rintro w' ⟨s0, s1, s2, s3, s4, s5, s6, s7, s8, s9, s10, s11, s12, s13, s14, s15, s16, s17, s18, s19, s20, s21, s22, s23, s24, s25, s26, s27, s28, s29, s30, s31, s32, s33, s34, s35, s36, s37, s38, s39, s40, s41, s42, s43, s44, s45, s46, s47, s48, s49, s50, s51, s52, s53, s54, s55, s56, s57, s58, s59, s60, s61, s62, s63, s64, s65⟩; go_simp; with_reducible rfl)
             refine ta_ 42 (some 83) L14_56 HT_ HW_ hHeld ?_ (hy := by rintro w' ⟨s0, s1, s2, s3, s4, s5, s6, s7, s8, s9, s10, s11, s12, s13, s14, s15, s16, s17, s18, s19, s20, s21, s22, s23, s24, s25, s26, s27, s28, s29, s30, s31, s32, s33, s34, s35, s36, s37, s38, s39, s40, s41, s42, s43, s44, s45, s46, s47, s48, s49, s50, s51, s52, s53, s54, s55, s56, s57, s58, s59, s60, s61, s62, s63, s64, s65⟩; go_simp; with_reducible rfl)
             refine pu_ 43 (some 84) L14_57 HT_ ?_
             refine pu_ 44 (some 85) L14_58 HT_ ?_
             refine pu_ 45 (some 86) L14_59 HT_ ?_
             refine skips_ (fuel := 14) (m := 25) HT_.out (fun _ _ _ _ _ h => h) [(46, 87), (47, 88), (48, 89), (49, 90), (50, 91), (51, 92), (52, 93), (53, 94), (54, 95), (55, 96), (56, 97)] L14_60 rfl (by kernel_rfl) (by kernel_rfl) (a' := ?_) ?_ ?_
             rotate_left
             ·simp only [putU, Act.put, sA_, sB_, sC_]
              rfl
             refine pu_ 57 (some 98) L14_61 HT_ ?_
             refine pu_ 58 (some 99) L14_62 HT_ ?_
             refine skips_ (fuel := 1) (m := 12) HT_.out (fun _ _ _ _ _ h => h) [(59, 100), (60, 101), (61, 102), (62, 103), (63, 104), (64, 105), (65, 106), (66, 107), (67, 108), (68, 109), (69, 110)] L14_63 rfl (by kernel_rfl) (by kernel_rfl) (a' := ?_) ?_ ?_
             rotate_left
             ·simp only [putU, Act.put, sA_, sB_, sC_]
              rfl
             refine pu_ 70 (some 111) L14_64 HT_ ?_
             refine done_ (done_of HT_.out (by kernel_rfl)) ?_
             try go_wp2
             go_meet
             case rel => exact ⟨_, (true), (by first | rfl | (simp; done) | (simp [*]; done)), H', ⟨by have := HK1.out; first | omega | exact Nat.le_refl _⟩, ⟨bq0_ HB.out⟩⟩
            ·rw [if_neg c18] at H
             have c18b0 : (!(((rd_T30 l0 x5_1).f4.f0) == ((rd_T30 l1 x5_1).f4.f0)) || (!(((rd_T30 l0 x5_1).f4.f1) == ((rd_T30 l1 x5_1).f4.f1)) || (!(((rd_T30 l0 x5_1).f4.f2) == ((rd_T30 l1 x5_1).f4.f2)) || (!(((rd_T30 l0 x5_1).f4.f3) == ((rd_T30 l1 x5_1).f4.f3)))))) = false := by simpa using c18
             clear c18
             by_cases c20 : ((rd_T30 l0 x5_1).f5) = ((rd_T30 l1 x5_1).f5)
             ·rw [if_pos c20] at H
              obtain ⟨c20b0, c20b1⟩ := eqT_ c20
              clear c20
              have H' := Aside0.mk H
              clear H
              try go_wp2
              replace HB := Aside0.mk (below_drew1 HB.out)
              have p208 : 0 ≤ (x5_1 : Int) := od_
              have q208 : x5_1 < (l0.length : Int) := od_
              obtain ⟨ad208, A208_2, c208_2, A208_3, c208_3, A208_4, c208_4, e208, hx208_0, hx208_1, hx208_2, hx208_3, hx208_4, hx208_5, hx208_6, hx208_7, hx208_8, hx208_9, hx208_10, hl208_2, hi208_2, hl208_3, hi208_3, hl208_4, hi208_4⟩ := at_T30 HR0.out x5_1 p208 q208
              have hw208_10 := hx208_10
              have hw208_9 := hx208_9
              have hw208_8 := hx208_8
              have hw208_7 := hx208_7
              have hw208_6 := hx208_6
              have hw208_5 := hx208_5
              have hw208_4 := hx208_4
              have hw208_3 := hx208_3
              have hw208_2 := hx208_2
              have hw208_1 := hx208_1
              have hw208_0 := hx208_0
              obtain rfl : ad202 = ad208 := (by injection e208)
              replace hx208_0 := hb_ HB hx208_0
              replace hx208_1 := hb_ HB hx208_1
              replace hx208_2 := hb_ HB hx208_2
              replace hx208_3 := hb_ HB hx208_3
              replace hx208_4 := hb_ HB hx208_4
              replace hx208_5 := hb_ HB hx208_5
              replace hx208_6 := hb_ HB hx208_6
              replace hx208_7 := hb_ HB hx208_7
              replace hx208_8 := hb_ HB hx208_8
              replace hx208_9 := hb_ HB hx208_9
              replace hx208_10 := hb_ HB hx208_10
              have HR208_2 := Aside0.mk hi208_2
              have HC208_2 := Aside0.mk hl208_2
              clear hi208_2 hl208_2
              have HR208_3 := Aside0.mk hi208_3
              have HC208_3 := Aside0.mk hl208_3
              clear hi208_3 hl208_3
              have HR208_4 := Aside0.mk hi208_4
              have HC208_4 := Aside0.mk hl208_4
              clear hi208_4 hl208_4
              replace p208 := eq_true p208
              replace q208 := eq_true q208
              have p209 : 0 ≤ (x5_1 : Int) := od_
              have q209 : x5_1 < (l1.length : Int) := od_
              obtain ⟨ad209, A209_2, c209_2, A209_3, c209_3, A209_4, c209_4, e209, hx209_0, hx209_1, hx209_2, hx209_3, hx209_4, hx209_5, hx209_6, hx209_7, hx209_8, hx209_9, hx209_10, hl209_2, hi209_2, hl209_3, hi209_3, hl209_4, hi209_4⟩ := at_T30 HR1.out x5_1 p209 q209
              have hw209_10 := hx209_10
              have hw209_9 := hx209_9
              have hw209_8 := hx209_8
              have hw209_7 := hx209_7
              have hw209_6 := hx209_6
              have hw209_5 := hx209_5
              have hw209_4 := hx209_4
              have hw209_3 := hx209_3
              have hw209_2 := hx209_2
              have hw209_1 := hx209_1
              have hw209_0 := hx209_0
              obtain rfl : ad203 = ad209 := (by injection e209)
              replace hx209_0 := hb_ HB hx209_0
              replace hx209_1 := hb_ HB hx209_1
              replace hx209_2 := hb_ HB hx209_2
              replace hx209_3 := hb_ HB hx209_3
              replace hx209_4 := hb_ HB hx209_4
              replace hx209_5 := hb_ HB hx209_5
              replace hx209_6 := hb_ HB hx209_6
              replace hx209_7 := hb_ HB hx209_7
              replace hx209_8 := hb_ HB hx209_8
              replace hx209_9 := hb_ HB hx209_9
              replace hx209_10 := hb_ HB hx209_10
              have HR209_2 := Aside0.mk hi209_2
              have HC209_2 := Aside0.mk hl209_2
              clear hi209_2 hl209_2
              have HR209_3 := Aside0.mk hi209_3
              have HC209_3 := Aside0.mk hl209_3
              clear hi209_3 hl209_3
              have HR209_4 := Aside0.mk hi209_4
              have HC209_4 := Aside0.mk hl209_4
              clear hi209_4 hl209_4
              replace p209 := eq_true p209
              replace q209 := eq_true q209
              have p210 : 0 ≤ (x5_1 : Int) := od_
              have q210 : x5_1 < (l0.length : Int) := od_
              obtain ⟨ad210, A210_2, c210_2, A210_3, c210_3, A210_4, c210_4, e210, hx210_0, hx210_1, hx210_2, hx210_3, hx210_4, hx210_5, hx210_6, hx210_7, hx210_8, hx210_9, hx210_10, hl210_2, hi210_2, hl210_3, hi210_3, hl210_4, hi210_4⟩ := at_T30 HR0.out x5_1 p210 q210
              have hw210_10 := hx210_10
              have hw210_9 := hx210_9
              have hw210_8 := hx210_8
              have hw210_7 := hx210_7
              have hw210_6 := hx210_6
              have hw210_5 := hx210_5
              have hw210_4 := hx210_4
              have hw210_3 := hx210_3
              have hw210_2 := hx210_2
              have hw210_1 := hx210_1
              have hw210_0 := hx210_0
              obtain rfl : ad202 = ad210 := (by injection e210)
              replace hx210_0 := hb_ HB hx210_0
              replace hx210_1 := hb_ HB hx210_1
              replace hx210_2 := hb_ HB hx210_2
              replace hx210_3 := hb_ HB hx210_3
              replace hx210_4 := hb_ HB hx210_4
              replace hx210_5 := hb_ HB hx210_5
              replace hx210_6 := hb_ HB hx210_6
              replace hx210_7 := hb_ HB hx210_7
              replace hx210_8 := hb_ HB hx210_8
              replace hx210_9 := hb_ HB hx210_9
              replace hx210_10 := hb_ HB hx210_10
              have HR210_2 := Aside0.mk hi210_2
              have HC210_2 := Aside0.mk hl210_2
              clear hi210_2 hl210_2
              have HR210_3 := Aside0.mk hi210_3
              have HC210_3 := Aside0.mk hl210_3
              clear hi210_3 hl210_3
              have HR210_4 := Aside0.mk hi210_4
              have HC210_4 := Aside0.mk hl210_4
              clear hi210_4 hl210_4
              replace p210 := eq_true p210
              replace q210 := eq_true q210
              have ea_ := Option.some.inj (hx208_2.symm.trans hx210_2)
              injection ea_ with ea_ en_ ec_
              subst ea_
              subst ec_
              clear en_
              have ea_ := Option.some.inj (hx208_3.symm.trans hx210_3)
              injection ea_ with ea_ en_ ec_
              subst ea_
              subst ec_
              clear en_
              have ea_ := Option.some.inj (hx208_4.symm.trans hx210_4)
              injection ea_ with ea_ en_ ec_
              subst ea_
              subst ec_
              clear en_
              have p211 : 0 ≤ (x5_1 : Int) := od_
              have q211 : x5_1 < (l1.length : Int) := od_
              obtain ⟨ad211, A211_2, c211_2, A211_3, c211_3, A211_4, c211_4, e211, hx211_0, hx211_1, hx211_2, hx211_3, hx211_4, hx211_5, hx211_6, hx211_7, hx211_8, hx211_9, hx211_10, hl211_2, hi211_2, hl211_3, hi211_3, hl211_4, hi211_4⟩ := at_T30 HR1.out x5_1 p211 q211
              have hw211_10 := hx211_10
              have hw211_9 := hx211_9
              have hw211_8 := hx211_8
              have hw211_7 := hx211_7
              have hw211_6 := hx211_6
              have hw211_5 := hx211_5
              have hw211_4 := hx211_4
              have hw211_3 := hx211_3
              have hw211_2 := hx211_2
              have hw211_1 := hx211_1
              have hw211_0 := hx211_0
              obtain rfl : ad203 = ad211 := (by injection e211)
              replace hx211_0 := hb_ HB hx211_0
              replace hx211_1 := hb_ HB hx211_1
              replace hx211_2 := hb_ HB hx211_2
              replace hx211_3 := hb_ HB hx211_3
              replace hx211_4 := hb_ HB hx211_4
              replace hx211_5 := hb_ HB hx211_5
              replace hx211_6 := hb_ HB hx211_6
              replace hx211_7 := hb_ HB hx211_7
              replace hx211_8 := hb_ HB hx211_8
              replace hx211_9 := hb_ HB hx211_9
              replace hx211_10 := hb_ HB hx211_10
              have HR211_2 := Aside0.mk hi211_2
              have HC211_2 := Aside0.mk hl211_2
              clear hi211_2 hl211_2
              have HR211_3 := Aside0.mk hi211_3
              have HC211_3 := Aside0.mk hl211_3
              clear hi211_3 hl211_3
              have HR211_4 := Aside0.mk hi211_4
              have HC211_4 := Aside0.mk hl211_4
              clear hi211_4 hl211_4
              replace p211 := eq_true p211
              replace q211 := eq_true q211
              have ea_ := Option.some.inj (hx209_2.symm.trans hx211_2)
              injection ea_ with ea_ en_ ec_
              subst ea_
              subst ec_
              clear en_
              have ea_ := Option.some.inj (hx209_3.symm.trans hx211_3)
              injection ea_ with ea_ en_ ec_
              subst ea_
              subst ec_
              clear en_
              have ea_ := Option.some.inj (hx209_4.symm.trans hx211_4)
              injection ea_ with ea_ en_ ec_
              subst ea_
              subst ec_
              clear en_
              have p212 : 0 ≤ (x5_1 : Int) := od_
              have q212 : x5_1 < (l0.length : Int) := od_
              obtain ⟨ad212, A212_2, c212_2, A212_3, c212_3, A212_4, c212_4, e212, hx212_0, hx212_1, hx212_2, hx212_3, hx212_4, hx212_5, hx212_6, hx212_7, hx212_8, hx212_9, hx212_10, hl212_2, hi212_2, hl212_3, hi212_3, hl212_4, hi212_4⟩ := at_T30 HR0.out x5_1 p212 q212
              have hw212_10 := hx212_10
              have hw212_9 := hx212_9
              have hw212_8 := hx212_8
              have hw212_7 := hx212_7
              have hw212_6 := hx212_6
              have hw212_5 := hx212_5
              have hw212_4 := hx212_4
              have hw212_3 := hx212_3
              have hw212_2 := hx212_2
              have hw212_1 := hx212_1
              have hw212_0 := hx212_0
              obtain rfl : ad202 = ad212 := (by injection e212)
              replace hx212_0 := hb_ HB hx212_0
              replace hx212_1 := hb_ HB hx212_1
              replace hx212_2 := hb_ HB hx212_2
              replace hx212_3 := hb_ HB hx212_3
              replace hx212_4 := hb_ HB hx212_4
              replace hx212_5 := hb_ HB hx212_5
              replace hx212_6 := hb_ HB hx212_6
              replace hx212_7 := hb_ HB hx212_7
              replace hx212_8 := hb_ HB hx212_8
              replace hx212_9 := hb_ HB hx212_9
              replace hx212_10 := hb_ HB hx212_10
              have HR212_2 := Aside0.mk hi212_2
              have HC212_2 := Aside0.mk hl212_2
              clear hi212_2 hl212_2
              have HR212_3 := Aside0.mk hi212_3
              have HC212_3 := Aside0.mk hl212_3
              clear hi212_3 hl212_3
              have HR212_4 := Aside0.mk hi212_4
              have HC212_4 := Aside0.mk hl212_4
              clear hi212_4 hl212_4
              replace p212 := eq_true p212
              replace q212 := eq_true q212
              have ea_ := Option.some.inj (hx208_2.symm.trans hx212_2)
              injection ea_ with ea_ en_ ec_
              subst ea_
              subst ec_
              clear en_
              have ea_ := Option.some.inj (hx208_3.symm.trans hx212_3)
              injection ea_ with ea_ en_ ec_
              subst ea_
              subst ec_
              clear en_
              have ea_ := Option.some.inj (hx208_4.symm.trans hx212_4)
              injection ea_ with ea_ en_ ec_
              subst ea_
              subst ec_
              clear en_
              have p213 : 0 ≤ (x5_1 : Int) := od_
              have q213 : x5_1 < (l1.length : Int) := od_
              obtain ⟨ad213, A213_2, c213_2, A213_3, c213_3, A213_4, c213_4, e213, hx213_0, hx213_1, hx213_2, hx213_3, hx213_4, hx213_5, hx213_6, hx213_7, hx213_8, hx213_9, hx213_10, hl213_2, hi213_2, hl213_3, hi213_3, hl213_4, hi213_4⟩ := at_T30 HR1.out x5_1 p213 q213
              have hw213_10 := hx213_10
              have hw213_9 := hx213_9
              have hw213_8 := hx213_8
              have hw213_7 := hx213_7
              have hw213_6 := hx213_6
              have hw213_5 := hx213_5
              have hw213_4 := hx213_4
              have hw213_3 := hx213_3
              have hw213_2 := hx213_2
              have hw213_1 := hx213_1
              have hw213_0 := hx213_0
              obtain rfl : ad203 = ad213 := (by injection e213)
              replace hx213_0 := hb_ HB hx213_0
              replace hx213_1 := hb_ HB hx213_1
              replace hx213_2 := hb_ HB hx213_2
              replace hx213_3 := hb_ HB hx213_3
              replace hx213_4 := hb_ HB hx213_4
              replace hx213_5 := hb_ HB hx213_5
              replace hx213_6 := hb_ HB hx213_6
              replace hx213_7 := hb_ HB hx213_7
              replace hx213_8 := hb_ HB hx213_8
              replace hx213_9 := hb_ HB hx213_9
              replace hx213_10 := hb_ HB hx213_10
              have HR213_2 := Aside0.mk hi213_2
              have HC213_2 := Aside0.mk hl213_2
              clear hi213_2 hl213_2
              have HR213_3 := Aside0.mk hi213_3
              have HC213_3 := Aside0.mk hl213_3
              clear hi213_3 hl213_3
              have HR213_4 := Aside0.mk hi213_4
              have HC213_4 := Aside0.mk hl213_4
              clear hi213_4 hl213_4
              replace p213 := eq_true p213
              replace q213 := eq_true q213
              have ea_ := Option.some.inj (hx209_2.symm.trans hx213_2)
              injection ea_ with ea_ en_ ec_
              subst ea_
              subst ec_
              clear en_
              have ea_ := Option.some.inj (hx209_3.symm.trans hx213_3)
              injection ea_ with ea_ en_ ec_
              subst ea_
              subst ec_
              clear en_
              have ea_ := Option.some.inj (hx209_4.symm.trans hx213_4)
              injection ea_ with ea_ en_ ec_
              subst ea_
              subst ec_
              clear en_
              have p214 : 0 ≤ (x5_1 : Int) := od_
              have q214 : x5_1 < (l0.length : Int) := od_
              obtain ⟨ad214, A214_2, c214_2, A214_3, c214_3, A214_4, c214_4, e214, hx214_0, hx214_1, hx214_2, hx214_3, hx214_4, hx214_5, hx214_6, hx214_7, hx214_8, hx214_9, hx214_10, hl214_2, hi214_2, hl214_3, hi214_3, hl214_4, hi214_4⟩ := at_T30 HR0.out x5_1 p214 q214
              have hw214_10 := hx214_10
              have hw214_9 := hx214_9
              have hw214_8 := hx214_8
              have hw214_7 := hx214_7
              have hw214_6 := hx214_6
              have hw214_5 := hx214_5
              have hw214_4 := hx214_4
              have hw214_3 := hx214_3
              have hw214_2 := hx214_2
              have hw214_1 := hx214_1
              have hw214_0 := hx214_0
              obtain rfl : ad202 = ad214 := (by injection e214)
              replace hx214_0 := hb_ HB hx214_0
              replace hx214_1 := hb_ HB hx214_1
              replace hx214_2 := hb_ HB hx214_2
              replace hx214_3 := hb_ HB hx214_3
              replace hx214_4 := hb_ HB hx214_4
              replace hx214_5 := hb_ HB hx214_5
              replace hx214_6 := hb_ HB hx214_6
              replace hx214_7 := hb_ HB hx214_7
              replace hx214_8 := hb_ HB hx214_8
              replace hx214_9 := hb_ HB hx214_9
              replace hx214_10 := hb_ HB hx214_10
              have HR214_2 := Aside0.mk hi214_2
              have HC214_2 := Aside0.mk hl214_2
              clear hi214_2 hl214_2
              have HR214_3 := Aside0.mk hi214_3
              have HC214_3 := Aside0.mk hl214_3
              clear hi214_3 hl214_3
              have HR214_4 := Aside0.mk hi214_4
              have HC214_4 := Aside0.mk hl214_4
              clear hi214_4 hl214_4
              replace p214 := eq_true p214
              replace q214 := eq_true q214
              have ea_ := Option.some.inj (hx208_2.symm.trans hx214_2)
              injection ea_ with ea_ en_ ec_
              subst ea_
              subst ec_
              clear en_
              have ea_ := Option.some.inj (hx208_3.symm.trans hx214_3)
              injection ea_ with ea_ en_ ec_
              subst ea_
              subst ec_
              clear en_
              have ea_ := Option.some.inj (hx208_4.symm.trans hx214_4)
              injection ea_ with ea_ en_ ec_
              subst ea_
              subst ec_
              clear en_
              have p215 : 0 ≤ (x5_1 : Int) := od_
              have q215 : x5_1 < (l1.length : Int) := od_
              obtain ⟨ad215, A215_2, c215_2, A215_3, c215_3, A215_4, c215_4, e215, hx215_0, hx215_1, hx215_2, hx215_3, hx215_4, hx215_5, hx215_6, hx215_7, hx215_8, hx215_9, hx215_10, hl215_2, hi215_2, hl215_3, hi215_3, hl215_4, hi215_4⟩ := at_T30 HR1.out x5_1 p215 q215
              have hw215_10 := hx215_10
              have hw215_9 := hx215_9
              have hw215_8 := hx215_8
              have hw215_7 := hx215_7
              have hw215_6 := hx215_6
              have hw215_5 := hx215_5
              have hw215_4 := hx215_4
              have hw215_3 := hx215_3
              have hw215_2 := hx215_2
              have hw215_1 := hx215_1
              have hw215_0 := hx215_0
              obtain rfl : ad203 = ad215 := (by injection e215)
              replace hx215_0 := hb_ HB hx215_0
              replace hx215_1 := hb_ HB hx215_1
              replace hx215_2 := hb_ HB hx215_2
              replace hx215_3 := hb_ HB hx215_3
              replace hx215_4 := hb_ HB hx215_4
              replace hx215_5 := hb_ HB hx215_5
              replace hx215_6 := hb_ HB hx215_6
              replace hx215_7 := hb_ HB hx215_7
              replace hx215_8 := hb_ HB hx215_8
              replace hx215_9 := hb_ HB hx215_9
              replace hx215_10 := hb_ HB hx215_10
              have HR215_2 := Aside0.mk hi215_2
              have HC215_2 := Aside0.mk hl215_2
              clear hi215_2 hl215_2
              have HR215_3 := Aside0.mk hi215_3
              have HC215_3 := Aside0.mk hl215_3
              clear hi215_3 hl215_3
              have HR215_4 := Aside0.mk hi215_4
              have HC215_4 := Aside0.mk hl215_4
              clear hi215_4 hl215_4
              replace p215 := eq_true p215
              replace q215 := eq_true q215
              have ea_ := Option.some.inj (hx209_2.symm.trans hx215_2)
              injection ea_ with ea_ en_ ec_
              subst ea_
              subst ec_
              clear en_
              have ea_ := Option.some.inj (hx209_3.symm.trans hx215_3)
              injection ea_ with ea_ en_ ec_
              subst ea_
              subst ec_
              clear en_
              have ea_ := Option.some.inj (hx209_4.symm.trans hx215_4)
              injection ea_ with ea_ en_ ec_
              subst ea_
              subst ec_
              clear en_
              have p216 : 0 ≤ (x5_1 : Int) := od_
              have q216 : x5_1 < (l0.length : Int) := od_
              obtain ⟨ad216, A216_2, c216_2, A216_3, c216_3, A216_4, c216_4, e216, hx216_0, hx216_1, hx216_2, hx216_3, hx216_4, hx216_5, hx216_6, hx216_7, hx216_8, hx216_9, hx216_10, hl216_2, hi216_2, hl216_3, hi216_3, hl216_4, hi216_4⟩ := at_T30 HR0.out x5_1 p216 q216
              have hw216_10 := hx216_10
              have hw216_9 := hx216_9
              have hw216_8 := hx216_8
              have hw216_7 := hx216_7
              have hw216_6 := hx216_6
              have hw216_5 := hx216_5
              have hw216_4 := hx216_4
              have hw216_3 := hx216_3
              have hw216_2 := hx216_2
              have hw216_1 := hx216_1
              have hw216_0 := hx216_0
              obtain rfl : ad202 = ad216 := (by injection e216)
              replace hx216_0 := hb_ HB hx216_0
              replace hx216_1 := hb_ HB hx216_1
              replace hx216_2 := hb_ HB hx216_2
              replace hx216_3 := hb_ HB hx216_3
              replace hx216_4 := hb_ HB hx216_4
              replace hx216_5 := hb_ HB hx216_5
              replace hx216_6 := hb_ HB hx216_6
              replace hx216_7 := hb_ HB hx216_7
              replace hx216_8 := hb_ HB hx216_8
              replace hx216_9 := hb_ HB hx216_9
              replace hx216_10 := hb_ HB hx216_10
              have HR216_2 := Aside0.mk hi216_2
              have HC216_2 := Aside0.mk hl216_2
              clear hi216_2 hl216_2
              have HR216_3 := Aside0.mk hi216_3
              have HC216_3 := Aside0.mk hl216_3
              clear hi216_3 hl216_3
              have HR216_4 := Aside0.mk hi216_4
              have HC216_4 := Aside0.mk hl216_4
              clear hi216_4 hl216_4
              replace p216 := eq_true p216
              replace q216 := eq_true q216
              have ea_ := Option.some.inj (hx208_2.symm.trans hx216_2)
              injection ea_ with ea_ en_ ec_
              subst ea_
              subst ec_
              clear en_
              have ea_ := Option.some.inj (hx208_3.symm.trans hx216_3)
              injection ea_ with ea_ en_ ec_
              subst ea_
              subst ec_
              clear en_
              have ea_ := Option.some.inj (hx208_4.symm.trans hx216_4)
              injection ea_ with ea_ en_ ec_
              subst ea_
              subst ec_
              clear en_
              have p217 : 0 ≤ (x5_1 : Int) := od_
              have q217 : x5_1 < (l1.length : Int) := od_
              obtain ⟨ad217, A217_2, c217_2, A217_3, c217_3, A217_4, c217_4, e217, hx217_0, hx217_1, hx217_2, hx217_3, hx217_4, hx217_5, hx217_6, hx217_7, hx217_8, hx217_9, hx217_10, hl217_2, hi217_2, hl217_3, hi217_3, hl217_4, hi217_4⟩ := at_T30 HR1.out x5_1 p217 q217
              have hw217_10 := hx217_10
              have hw217_9 := hx217_9
              have hw217_8 := hx217_8
              have hw217_7 := hx217_7
              have hw217_6 := hx217_6
              have hw217_5 := hx217_5
              have hw217_4 := hx217_4
              have hw217_3 := hx217_3
              have hw217_2 := hx217_2
              have hw217_1 := hx217_1
              have hw217_0 := hx217_0
              obtain rfl : ad203 = ad217 := (by injection e217)
              replace hx217_0 := hb_ HB hx217_0
              replace hx217_1 := hb_ HB hx217_1
              replace hx217_2 := hb_ HB hx217_2
              replace hx217_3 := hb_ HB hx217_3
              replace hx217_4 := hb_ HB hx217_4
              replace hx217_5 := hb_ HB hx217_5
              replace hx217_6 := hb_ HB hx217_6
              replace hx217_7 := hb_ HB hx217_7
              replace hx217_8 := hb_ HB hx217_8
              replace hx217_9 := hb_ HB hx217_9
              replace hx217_10 := hb_ HB hx217_10
              have HR217_2 := Aside0.mk hi217_2
              have HC217_2 := Aside0.mk hl217_2
              clear hi217_2 hl217_2
              have HR217_3 := Aside0.mk hi217_3
              have HC217_3 := Aside0.mk hl217_3
              clear hi217_3 hl217_3
              have HR217_4 := Aside0.mk hi217_4
              have HC217_4 := Aside0.mk hl217_4
              clear hi217_4 hl217_4
              replace p217 := eq_true p217
              replace q217 := eq_true q217
              have ea_ := Option.some.inj (hx209_2.symm.trans hx217_2)
              injection ea_ with ea_ en_ ec_
              subst ea_
              subst ec_
              clear en_
              have ea_ := Option.some.inj (hx209_3.symm.trans hx217_3)
              injection ea_ with ea_ en_ ec_
              subst ea_
              subst ec_
              clear en_
              have ea_ := Option.some.inj (hx209_4.symm.trans hx217_4)
              injection ea_ with ea_ en_ ec_
              subst ea_
              subst ec_
              clear en_
              refine start_ (n := 71) (S := fun w' => w'.cell? (ad202.add ((x5_1).toNat * 11)) = some (.int .i64 ((rd_T30 l0 x5_1).f0)) ∧ w'.cell? ⟨(ad202.add ((x5_1).toNat * 11)).block, (ad202.add ((x5_1).toNat * 11)).off + 1, none⟩ = some (.int .i64 ((rd_T30 l0 x5_1).f1)) ∧ w'.cell? ⟨(ad202.add ((x5_1).toNat * 11)).block, (ad202.add ((x5_1).toNat * 11)).off + 2, none⟩ = some (.slice A208_2 ((rd_T30 l0 x5_1).f2).length c208_2) ∧ w'.cell? ⟨(ad202.add ((x5_1).toNat * 11)).block, (ad202.add ((x5_1).toNat * 11)).off + 3, none⟩ = some (.slice A208_3 ((rd_T30 l0 x5_1).f3.f0).length c208_3) ∧ w'.cell? ⟨(ad202.add ((x5_1).toNat * 11)).block, (ad202.add ((x5_1).toNat * 11)).off + 4, none⟩ = some (.slice A208_4 ((rd_T30 l0 x5_1).f3.f1).length c208_4) ∧ w'.cell? ⟨(ad202.add ((x5_1).toNat * 11)).block, (ad202.add ((x5_1).toNat * 11)).off + 5, none⟩ = some (.int .i64 ((rd_T30 l0 x5_1).f4.f0)) ∧ w'.cell? ⟨(ad202.add ((x5_1).toNat * 11)).block, (ad202.add ((x5_1).toNat * 11)).off + 6, none⟩ = some (.int .i64 ((rd_T30 l0 x5_1).f4.f1)) ∧ w'.cell? ⟨(ad202.add ((x5_1).toNat * 11)).block, (ad202.add ((x5_1).toNat * 11)).off + 7, none⟩ = some (.int .i64 ((rd_T30 l0 x5_1).f4.f2)) ∧ w'.cell? ⟨(ad202.add ((x5_1).toNat * 11)).block, (ad202.add ((x5_1).toNat * 11)).off + 8, none⟩ = some (.int .i64 ((rd_T30 l0 x5_1).f4.f3)) ∧ w'.cell? ⟨(ad202.add ((x5_1).toNat * 11)).block, (ad202.add ((x5_1).toNat * 11)).off + 9, none⟩ = some (.int .i64 ((rd_T30 l0 x5_1).f5)) ∧ w'.cell? ⟨(ad202.add ((x5_1).toNat * 11)).block, (ad202.add ((x5_1).toNat * 11)).off + 10, none⟩ = some (.int .i64 ((rd_T30 l0 x5_1).f6)) ∧ w'.cell? (ad203.add ((x5_1).toNat * 11)) = some (.int .i64 ((rd_T30 l1 x5_1).f0)) ∧ w'.cell? ⟨(ad203.add ((x5_1).toNat * 11)).block, (ad203.add ((x5_1).toNat * 11)).off + 1, none⟩ = some (.int .i64 ((rd_T30 l1 x5_1).f1)) ∧ w'.cell? ⟨(ad203.add ((x5_1).toNat * 11)).block, (ad203.add ((x5_1).toNat * 11)).off + 2, none⟩ = some (.slice A209_2 ((rd_T30 l1 x5_1).f2).length c209_2) ∧ w'.cell? ⟨(ad203.add ((x5_1).toNat * 11)).block, (ad203.add ((x5_1).toNat * 11)).off + 3, none⟩ = some (.slice A209_3 ((rd_T30 l1 x5_1).f3.f0).length c209_3) ∧ w'.cell? ⟨(ad203.add ((x5_1).toNat * 11)).block, (ad203.add ((x5_1).toNat * 11)).off + 4, none⟩ = some (.slice A209_4 ((rd_T30 l1 x5_1).f3.f1).length c209_4) ∧ w'.cell? ⟨(ad203.add ((x5_1).toNat * 11)).block, (ad203.add ((x5_1).toNat * 11)).off + 5, none⟩ = some (.int .i64 ((rd_T30 l1 x5_1).f4.f0)) ∧ w'.cell? ⟨(ad203.add ((x5_1).toNat * 11)).block, (ad203.add ((x5_1).toNat * 11)).off + 6, none⟩ = some (.int .i64 ((rd_T30 l1 x5_1).f4.f1)) ∧ w'.cell? ⟨(ad203.add ((x5_1).toNat * 11)).block, (ad203.add ((x5_1).toNat * 11)).off + 7, none⟩ = some (.int .i64 ((rd_T30 l1 x5_1).f4.f2)) ∧ w'.cell? ⟨(ad203.add ((x5_1).toNat * 11)).block, (ad203.add ((x5_1).toNat * 11)).off + 8, none⟩ = some (.int .i64 ((rd_T30 l1 x5_1).f4.f3)) ∧ w'.cell? ⟨(ad203.add ((x5_1).toNat * 11)).block, (ad203.add ((x5_1).toNat * 11)).off + 9, none⟩ = some (.int .i64 ((rd_T30 l1 x5_1).f5)) ∧ w'.cell? ⟨(ad203.add ((x5_1).toNat * 11)).block, (ad203.add ((x5_1).toNat * 11)).off + 10, none⟩ = some (.int .i64 ((rd_T30 l1 x5_1).f6)) ∧ w'.cell? (ad202.add ((x5_1).toNat * 11)) = some (.int .i64 ((rd_T30 l0 x5_1).f0)) ∧ w'.cell? ⟨(ad202.add ((x5_1).toNat * 11)).block, (ad202.add ((x5_1).toNat * 11)).off + 1, none⟩ = some (.int .i64 ((rd_T30 l0 x5_1).f1)) ∧ w'.cell? ⟨(ad202.add ((x5_1).toNat * 11)).block, (ad202.add ((x5_1).toNat * 11)).off + 2, none⟩ = some (.slice A208_2 ((rd_T30 l0 x5_1).f2).length c208_2) ∧ w'.cell? ⟨(ad202.add ((x5_1).toNat * 11)).block, (ad202.add ((x5_1).toNat * 11)).off + 3, none⟩ = some (.slice A208_3 ((rd_T30 l0 x5_1).f3.f0).length c208_3) ∧ w'.cell? ⟨(ad202.add ((x5_1).toNat * 11)).block, (ad202.add ((x5_1).toNat * 11)).off + 4, none⟩ = some (.slice A208_4 ((rd_T30 l0 x5_1).f3.f1).length c208_4) ∧ w'.cell? ⟨(ad202.add ((x5_1).toNat * 11)).block, (ad202.add ((x5_1).toNat * 11)).off + 5, none⟩ = some (.int .i64 ((rd_T30 l0 x5_1).f4.f0)) ∧ w'.cell? ⟨(ad202.add ((x5_1).toNat * 11)).block, (ad202.add ((x5_1).toNat * 11)).off + 6, none⟩ = some (.int .i64 ((rd_T30 l0 x5_1).f4.f1)) ∧ w'.cell? ⟨(ad202.add ((x5_1).toNat * 11)).block, (ad202.add ((x5_1).toNat * 11)).off + 7, none⟩ = some (.int .i64 ((rd_T30 l0 x5_1).f4.f2)) ∧ w'.cell? ⟨(ad202.add ((x5_1).toNat * 11)).block, (ad202.add ((x5_1).toNat * 11)).off + 8, none⟩ = some (.int .i64 ((rd_T30 l0 x5_1).f4.f3)) ∧ w'.cell? ⟨(ad202.add ((x5_1).toNat * 11)).block, (ad202.add ((x5_1).toNat * 11)).off + 9, none⟩ = some (.int .i64 ((rd_T30 l0 x5_1).f5)) ∧ w'.cell? ⟨(ad202.add ((x5_1).toNat * 11)).block, (ad202.add ((x5_1).toNat * 11)).off + 10, none⟩ = some (.int .i64 ((rd_T30 l0 x5_1).f6)) ∧ w'.cell? (ad203.add ((x5_1).toNat * 11)) = some (.int .i64 ((rd_T30 l1 x5_1).f0)) ∧ w'.cell? ⟨(ad203.add ((x5_1).toNat * 11)).block, (ad203.add ((x5_1).toNat * 11)).off + 1, none⟩ = some (.int .i64 ((rd_T30 l1 x5_1).f1)) ∧ w'.cell? ⟨(ad203.add ((x5_1).toNat * 11)).block, (ad203.add ((x5_1).toNat * 11)).off + 2, none⟩ = some (.slice A209_2 ((rd_T30 l1 x5_1).f2).length c209_2) ∧ w'.cell? ⟨(ad203.add ((x5_1).toNat * 11)).block, (ad203.add ((x5_1).toNat * 11)).off + 3, none⟩ = some (.slice A209_3 ((rd_T30 l1 x5_1).f3.f0).length c209_3) ∧ w'.cell? ⟨(ad203.add ((x5_1).toNat * 11)).block, (ad203.add ((x5_1).toNat * 11)).off + 4, none⟩ = some (.slice A209_4 ((rd_T30 l1 x5_1).f3.f1).length c209_4) ∧ w'.cell? ⟨(ad203.add ((x5_1).toNat * 11)).block, (ad203.add ((x5_1).toNat * 11)).off + 5, none⟩ = some (.int .i64 ((rd_T30 l1 x5_1).f4.f0)) ∧ w'.cell? ⟨(ad203.add ((x5_1).toNat * 11)).block, (ad203.add ((x5_1).toNat * 11)).off + 6, none⟩ = some (.int .i64 ((rd_T30 l1 x5_1).f4.f1)) ∧ w'.cell? ⟨(ad203.add ((x5_1).toNat * 11)).block, (ad203.add ((x5_1).toNat * 11)).off + 7, none⟩ = some (.int .i64 ((rd_T30 l1 x5_1).f4.f2)) ∧ w'.cell? ⟨(ad203.add ((x5_1).toNat * 11)).block, (ad203.add ((x5_1).toNat * 11)).off + 8, none⟩ = some (.int .i64 ((rd_T30 l1 x5_1).f4.f3)) ∧ w'.cell? ⟨(ad203.add ((x5_1).toNat * 11)).block, (ad203.add ((x5_1).toNat * 11)).off + 9, none⟩ = some (.int .i64 ((rd_T30 l1 x5_1).f5)) ∧ w'.cell? ⟨(ad203.add ((x5_1).toNat * 11)).block, (ad203.add ((x5_1).toNat * 11)).off + 10, none⟩ = some (.int .i64 ((rd_T30 l1 x5_1).f6)) ∧ w'.cell? (ad202.add ((x5_1).toNat * 11)) = some (.int .i64 ((rd_T30 l0 x5_1).f0)) ∧ w'.cell? ⟨(ad202.add ((x5_1).toNat * 11)).block, (ad202.add ((x5_1).toNat * 11)).off + 1, none⟩ = some (.int .i64 ((rd_T30 l0 x5_1).f1)) ∧ w'.cell? ⟨(ad202.add ((x5_1).toNat * 11)).block, (ad202.add ((x5_1).toNat * 11)).off + 2, none⟩ = some (.slice A208_2 ((rd_T30 l0 x5_1).f2).length c208_2) ∧ w'.cell? ⟨(ad202.add ((x5_1).toNat * 11)).block, (ad202.add ((x5_1).toNat * 11)).off + 3, none⟩ = some (.slice A208_3 ((rd_T30 l0 x5_1).f3.f0).length c208_3) ∧ w'.cell? ⟨(ad202.add ((x5_1).toNat * 11)).block, (ad202.add ((x5_1).toNat * 11)).off + 4, none⟩ = some (.slice A208_4 ((rd_T30 l0 x5_1).f3.f1).length c208_4) ∧ w'.cell? ⟨(ad202.add ((x5_1).toNat * 11)).block, (ad202.add ((x5_1).toNat * 11)).off + 5, none⟩ = some (.int .i64 ((rd_T30 l0 x5_1).f4.f0)) ∧ w'.cell? ⟨(ad202.add ((x5_1).toNat * 11)).block, (ad202.add ((x5_1).toNat * 11)).off + 6, none⟩ = some (.int .i64 ((rd_T30 l0 x5_1).f4.f1)) ∧ w'.cell? ⟨(ad202.add ((x5_1).toNat * 11)).block, (ad202.add ((x5_1).toNat * 11)).off + 7, none⟩ = some (.int .i64 ((rd_T30 l0 x5_1).f4.f2)) ∧ w'.cell? ⟨(ad202.add ((x5_1).toNat * 11)).block, (ad202.add ((x5_1).toNat * 11)).off + 8, none⟩ = some (.int .i64 ((rd_T30 l0 x5_1).f4.f3)) ∧ w'.cell? ⟨(ad202.add ((x5_1).toNat * 11)).block, (ad202.add ((x5_1).toNat * 11)).off + 9, none⟩ = some (.int .i64 ((rd_T30 l0 x5_1).f5)) ∧ w'.cell? ⟨(ad202.add ((x5_1).toNat * 11)).block, (ad202.add ((x5_1).toNat * 11)).off + 10, none⟩ = some (.int .i64 ((rd_T30 l0 x5_1).f6)) ∧ w'.cell? (ad203.add ((x5_1).toNat * 11)) = some (.int .i64 ((rd_T30 l1 x5_1).f0)) ∧ w'.cell? ⟨(ad203.add ((x5_1).toNat * 11)).block, (ad203.add ((x5_1).toNat * 11)).off + 1, none⟩ = some (.int .i64 ((rd_T30 l1 x5_1).f1)) ∧ w'.cell? ⟨(ad203.add ((x5_1).toNat * 11)).block, (ad203.add ((x5_1).toNat * 11)).off + 2, none⟩ = some (.slice A209_2 ((rd_T30 l1 x5_1).f2).length c209_2) ∧ w'.cell? ⟨(ad203.add ((x5_1).toNat * 11)).block, (ad203.add ((x5_1).toNat * 11)).off + 3, none⟩ = some (.slice A209_3 ((rd_T30 l1 x5_1).f3.f0).length c209_3) ∧ w'.cell? ⟨(ad203.add ((x5_1).toNat * 11)).block, (ad203.add ((x5_1).toNat * 11)).off + 4, none⟩ = some (.slice A209_4 ((rd_T30 l1 x5_1).f3.f1).length c209_4) ∧ w'.cell? ⟨(ad203.add ((x5_1).toNat * 11)).block, (ad203.add ((x5_1).toNat * 11)).off + 5, none⟩ = some (.int .i64 ((rd_T30 l1 x5_1).f4.f0)) ∧ w'.cell? ⟨(ad203.add ((x5_1).toNat * 11)).block, (ad203.add ((x5_1).toNat * 11)).off + 6, none⟩ = some (.int .i64 ((rd_T30 l1 x5_1).f4.f1)) ∧ w'.cell? ⟨(ad203.add ((x5_1).toNat * 11)).block, (ad203.add ((x5_1).toNat * 11)).off + 7, none⟩ = some (.int .i64 ((rd_T30 l1 x5_1).f4.f2)) ∧ w'.cell? ⟨(ad203.add ((x5_1).toNat * 11)).block, (ad203.add ((x5_1).toNat * 11)).off + 8, none⟩ = some (.int .i64 ((rd_T30 l1 x5_1).f4.f3)) ∧ w'.cell? ⟨(ad203.add ((x5_1).toNat * 11)).block, (ad203.add ((x5_1).toNat * 11)).off + 9, none⟩ = some (.int .i64 ((rd_T30 l1 x5_1).f5)) ∧ w'.cell? ⟨(ad203.add ((x5_1).toNat * 11)).block, (ad203.add ((x5_1).toNat * 11)).off + 10, none⟩ = some (.int .i64 ((rd_T30 l1 x5_1).f6)) ∧ w'.cell? (ad202.add ((x5_1).toNat * 11)) = some (.int .i64 ((rd_T30 l0 x5_1).f0)) ∧ w'.cell? ⟨(ad202.add ((x5_1).toNat * 11)).block, (ad202.add ((x5_1).toNat * 11)).off + 1, none⟩ = some (.int .i64 ((rd_T30 l0 x5_1).f1)) ∧ w'.cell? ⟨(ad202.add ((x5_1).toNat * 11)).block, (ad202.add ((x5_1).toNat * 11)).off + 2, none⟩ = some (.slice A208_2 ((rd_T30 l0 x5_1).f2).length c208_2) ∧ w'.cell? ⟨(ad202.add ((x5_1).toNat * 11)).block, (ad202.add ((x5_1).toNat * 11)).off + 3, none⟩ = some (.slice A208_3 ((rd_T30 l0 x5_1).f3.f0).length c208_3) ∧ w'.cell? ⟨(ad202.add ((x5_1).toNat * 11)).block, (ad202.add ((x5_1).toNat * 11)).off + 4, none⟩ = some (.slice A208_4 ((rd_T30 l0 x5_1).f3.f1).length c208_4) ∧ w'.cell? ⟨(ad202.add ((x5_1).toNat * 11)).block, (ad202.add ((x5_1).toNat * 11)).off + 5, none⟩ = some (.int .i64 ((rd_T30 l0 x5_1).f4.f0)) ∧ w'.cell? ⟨(ad202.add ((x5_1).toNat * 11)).block, (ad202.add ((x5_1).toNat * 11)).off + 6, none⟩ = some (.int .i64 ((rd_T30 l0 x5_1).f4.f1)) ∧ w'.cell? ⟨(ad202.add ((x5_1).toNat * 11)).block, (ad202.add ((x5_1).toNat * 11)).off + 7, none⟩ = some (.int .i64 ((rd_T30 l0 x5_1).f4.f2)) ∧ w'.cell? ⟨(ad202.add ((x5_1).toNat * 11)).block, (ad202.add ((x5_1).toNat * 11)).off + 8, none⟩ = some (.int .i64 ((rd_T30 l0 x5_1).f4.f3)) ∧ w'.cell? ⟨(ad202.add ((x5_1).toNat * 11)).block, (ad202.add ((x5_1).toNat * 11)).off + 9, none⟩ = some (.int .i64 ((rd_T30 l0 x5_1).f5)) ∧ w'.cell? ⟨(ad202.add ((x5_1).toNat * 11)).block, (ad202.add ((x5_1).toNat * 11)).off + 10, none⟩ = some (.int .i64 ((rd_T30 l0 x5_1).f6)) ∧ w'.cell? (ad203.add ((x5_1).toNat * 11)) = some (.int .i64 ((rd_T30 l1 x5_1).f0)) ∧ w'.cell? ⟨(ad203.add ((x5_1).toNat * 11)).block, (ad203.add ((x5_1).toNat * 11)).off + 1, none⟩ = some (.int .i64 ((rd_T30 l1 x5_1).f1)) ∧ w'.cell? ⟨(ad203.add ((x5_1).toNat * 11)).block, (ad203.add ((x5_1).toNat * 11)).off + 2, none⟩ = some (.slice A209_2 ((rd_T30 l1 x5_1).f2).length c209_2) ∧ w'.cell? ⟨(ad203.add ((x5_1).toNat * 11)).block, (ad203.add ((x5_1).toNat * 11)).off + 3, none⟩ = some (.slice A209_3 ((rd_T30 l1 x5_1).f3.f0).length c209_3) ∧ w'.cell? ⟨(ad203.add ((x5_1).toNat * 11)).block, (ad203.add ((x5_1).toNat * 11)).off + 4, none⟩ = some (.slice A209_4 ((rd_T30 l1 x5_1).f3.f1).length c209_4) ∧ w'.cell? ⟨(ad203.add ((x5_1).toNat * 11)).block, (ad203.add ((x5_1).toNat * 11)).off + 5, none⟩ = some (.int .i64 ((rd_T30 l1 x5_1).f4.f0)) ∧ w'.cell? ⟨(ad203.add ((x5_1).toNat * 11)).block, (ad203.add ((x5_1).toNat * 11)).off + 6, none⟩ = some (.int .i64 ((rd_T30 l1 x5_1).f4.f1)) ∧ w'.cell? ⟨(ad203.add ((x5_1).toNat * 11)).block, (ad203.add ((x5_1).toNat * 11)).off + 7, none⟩ = some (.int .i64 ((rd_T30 l1 x5_1).f4.f2)) ∧ w'.cell? ⟨(ad203.add ((x5_1).toNat * 11)).block, (ad203.add ((x5_1).toNat * 11)).off + 8, none⟩ = some (.int .i64 ((rd_T30 l1 x5_1).f4.f3)) ∧ w'.cell? ⟨(ad203.add ((x5_1).toNat * 11)).block, (ad203.add ((x5_1).toNat * 11)).off + 9, none⟩ = some (.int .i64 ((rd_T30 l1 x5_1).f5)) ∧ w'.cell? ⟨(ad203.add ((x5_1).toNat * 11)).block, (ad203.add ((x5_1).toNat * 11)).off + 10, none⟩ = some (.int .i64 ((rd_T30 l1 x5_1).f6)) ∧ w'.cell? (ad202.add ((x5_1).toNat * 11)) = some (.int .i64 ((rd_T30 l0 x5_1).f0)) ∧ w'.cell? ⟨(ad202.add ((x5_1).toNat * 11)).block, (ad202.add ((x5_1).toNat * 11)).off + 1, none⟩ = some (.int .i64 ((rd_T30 l0 x5_1).f1)) ∧ w'.cell? ⟨(ad202.add ((x5_1).toNat * 11)).block, (ad202.add ((x5_1).toNat * 11)).off + 2, none⟩ = some (.slice A208_2 ((rd_T30 l0 x5_1).f2).length c208_2) ∧ w'.cell? ⟨(ad202.add ((x5_1).toNat * 11)).block, (ad202.add ((x5_1).toNat * 11)).off + 3, none⟩ = some (.slice A208_3 ((rd_T30 l0 x5_1).f3.f0).length c208_3) ∧ w'.cell? ⟨(ad202.add ((x5_1).toNat * 11)).block, (ad202.add ((x5_1).toNat * 11)).off + 4, none⟩ = some (.slice A208_4 ((rd_T30 l0 x5_1).f3.f1).length c208_4) ∧ w'.cell? ⟨(ad202.add ((x5_1).toNat * 11)).block, (ad202.add ((x5_1).toNat * 11)).off + 5, none⟩ = some (.int .i64 ((rd_T30 l0 x5_1).f4.f0)) ∧ w'.cell? ⟨(ad202.add ((x5_1).toNat * 11)).block, (ad202.add ((x5_1).toNat * 11)).off + 6, none⟩ = some (.int .i64 ((rd_T30 l0 x5_1).f4.f1)) ∧ w'.cell? ⟨(ad202.add ((x5_1).toNat * 11)).block, (ad202.add ((x5_1).toNat * 11)).off + 7, none⟩ = some (.int .i64 ((rd_T30 l0 x5_1).f4.f2)) ∧ w'.cell? ⟨(ad202.add ((x5_1).toNat * 11)).block, (ad202.add ((x5_1).toNat * 11)).off + 8, none⟩ = some (.int .i64 ((rd_T30 l0 x5_1).f4.f3)) ∧ w'.cell? ⟨(ad202.add ((x5_1).toNat * 11)).block, (ad202.add ((x5_1).toNat * 11)).off + 9, none⟩ = some (.int .i64 ((rd_T30 l0 x5_1).f5)) ∧ w'.cell? ⟨(ad202.add ((x5_1).toNat * 11)).block, (ad202.add ((x5_1).toNat * 11)).off + 10, none⟩ = some (.int .i64 ((rd_T30 l0 x5_1).f6)) ∧ w'.cell? (ad203.add ((x5_1).toNat * 11)) = some (.int .i64 ((rd_T30 l1 x5_1).f0)) ∧ w'.cell? ⟨(ad203.add ((x5_1).toNat * 11)).block, (ad203.add ((x5_1).toNat * 11)).off + 1, none⟩ = some (.int .i64 ((rd_T30 l1 x5_1).f1)) ∧ w'.cell? ⟨(ad203.add ((x5_1).toNat * 11)).block, (ad203.add ((x5_1).toNat * 11)).off + 2, none⟩ = some (.slice A209_2 ((rd_T30 l1 x5_1).f2).length c209_2) ∧ w'.cell? ⟨(ad203.add ((x5_1).toNat * 11)).block, (ad203.add ((x5_1).toNat * 11)).off + 3, none⟩ = some (.slice A209_3 ((rd_T30 l1 x5_1).f3.f0).length c209_3) ∧ w'.cell? ⟨(ad203.add ((x5_1).toNat * 11)).block, (ad203.add ((x5_1).toNat * 11)).off + 4, none⟩ = some (.slice A209_4 ((rd_T30 l1 x5_1).f3.f1).length c209_4) ∧ w'.cell? ⟨(ad203.add ((x5_1).toNat * 11)).block, (ad203.add ((x5_1).toNat * 11)).off + 5, none⟩ = some (.int .i64 ((rd_T30 l1 x5_1).f4.f0)) ∧ w'.cell? ⟨(ad203.add ((x5_1).toNat * 11)).block, (ad203.add ((x5_1).toNat * 11)).off + 6, none⟩ = some (.int .i64 ((rd_T30 l1 x5_1).f4.f1)) ∧ w'.cell? ⟨(ad203.add ((x5_1).toNat * 11)).block, (ad203.add ((x5_1).toNat * 11)).off + 7, none⟩ = some (.int .i64 ((rd_T30 l1 x5_1).f4.f2)) ∧ w'.cell? ⟨(ad203.add ((x5_1).toNat * 11)).block, (ad203.add ((x5_1).toNat * 11)).off + 8, none⟩ = some (.int .i64 ((rd_T30 l1 x5_1).f4.f3)) ∧ w'.cell? ⟨(ad203.add ((x5_1).toNat * 11)).block, (ad203.add ((x5_1).toNat * 11)).off + 9, none⟩ = some (.int .i64 ((rd_T30 l1 x5_1).f5)) ∧ w'.cell? ⟨(ad203.add ((x5_1).toNat * 11)).block, (ad203.add ((x5_1).toNat * 11)).off + 10, none⟩ = some (.int .i64 ((rd_T30 l1 x5_1).f6))) (ds := []) L14_13 (by kernel_rfl) rfl rfl ⟨((HB.out.cell (World.block_lt_of_cell? w _ hw208_0)).trans hw208_0), ((HB.out.cell (World.block_lt_of_cell? w _ hw208_1)).trans hw208_1), ((HB.out.cell (World.block_lt_of_cell? w _ hw208_2)).trans hw208_2), ((HB.out.cell (World.block_lt_of_cell? w _ hw208_3)).trans hw208_3), ((HB.out.cell (World.block_lt_of_cell? w _ hw208_4)).trans hw208_4), ((HB.out.cell (World.block_lt_of_cell? w _ hw208_5)).trans hw208_5), ((HB.out.cell (World.block_lt_of_cell? w _ hw208_6)).trans hw208_6), ((HB.out.cell (World.block_lt_of_cell? w _ hw208_7)).trans hw208_7), ((HB.out.cell (World.block_lt_of_cell? w _ hw208_8)).trans hw208_8), ((HB.out.cell (World.block_lt_of_cell? w _ hw208_9)).trans hw208_9), ((HB.out.cell (World.block_lt_of_cell? w _ hw208_10)).trans hw208_10), ((HB.out.cell (World.block_lt_of_cell? w _ hw209_0)).trans hw209_0), ((HB.out.cell (World.block_lt_of_cell? w _ hw209_1)).trans hw209_1), ((HB.out.cell (World.block_lt_of_cell? w _ hw209_2)).trans hw209_2), ((HB.out.cell (World.block_lt_of_cell? w _ hw209_3)).trans hw209_3), ((HB.out.cell (World.block_lt_of_cell? w _ hw209_4)).trans hw209_4), ((HB.out.cell (World.block_lt_of_cell? w _ hw209_5)).trans hw209_5), ((HB.out.cell (World.block_lt_of_cell? w _ hw209_6)).trans hw209_6), ((HB.out.cell (World.block_lt_of_cell? w _ hw209_7)).trans hw209_7), ((HB.out.cell (World.block_lt_of_cell? w _ hw209_8)).trans hw209_8), ((HB.out.cell (World.block_lt_of_cell? w _ hw209_9)).trans hw209_9), ((HB.out.cell (World.block_lt_of_cell? w _ hw209_10)).trans hw209_10), ((HB.out.cell (World.block_lt_of_cell? w _ hw210_0)).trans hw210_0), ((HB.out.cell (World.block_lt_of_cell? w _ hw210_1)).trans hw210_1), ((HB.out.cell (World.block_lt_of_cell? w _ hw210_2)).trans hw210_2), ((HB.out.cell (World.block_lt_of_cell? w _ hw210_3)).trans hw210_3), ((HB.out.cell (World.block_lt_of_cell? w _ hw210_4)).trans hw210_4), ((HB.out.cell (World.block_lt_of_cell? w _ hw210_5)).trans hw210_5), ((HB.out.cell (World.block_lt_of_cell? w _ hw210_6)).trans hw210_6), ((HB.out.cell (World.block_lt_of_cell? w _ hw210_7)).trans hw210_7), ((HB.out.cell (World.block_lt_of_cell? w _ hw210_8)).trans hw210_8), ((HB.out.cell (World.block_lt_of_cell? w _ hw210_9)).trans hw210_9), ((HB.out.cell (World.block_lt_of_cell? w _ hw210_10)).trans hw210_10), ((HB.out.cell (World.block_lt_of_cell? w _ hw211_0)).trans hw211_0), ((HB.out.cell (World.block_lt_of_cell? w _ hw211_1)).trans hw211_1), ((HB.out.cell (World.block_lt_of_cell? w _ hw211_2)).trans hw211_2), ((HB.out.cell (World.block_lt_of_cell? w _ hw211_3)).trans hw211_3), ((HB.out.cell (World.block_lt_of_cell? w _ hw211_4)).trans hw211_4), ((HB.out.cell (World.block_lt_of_cell? w _ hw211_5)).trans hw211_5), ((HB.out.cell (World.block_lt_of_cell? w _ hw211_6)).trans hw211_6), ((HB.out.cell (World.block_lt_of_cell? w _ hw211_7)).trans hw211_7), ((HB.out.cell (World.block_lt_of_cell? w _ hw211_8)).trans hw211_8), ((HB.out.cell (World.block_lt_of_cell? w _ hw211_9)).trans hw211_9), ((HB.out.cell (World.block_lt_of_cell? w _ hw211_10)).trans hw211_10), ((HB.out.cell (World.block_lt_of_cell? w _ hw212_0)).trans hw212_0), ((HB.out.cell (World.block_lt_of_cell? w _ hw212_1)).trans hw212_1), ((HB.out.cell (World.block_lt_of_cell? w _ hw212_2)).trans hw212_2), ((HB.out.cell (World.block_lt_of_cell? w _ hw212_3)).trans hw212_3), ((HB.out.cell (World.block_lt_of_cell? w _ hw212_4)).trans hw212_4), ((HB.out.cell (World.block_lt_of_cell? w _ hw212_5)).trans hw212_5), ((HB.out.cell (World.block_lt_of_cell? w _ hw212_6)).trans hw212_6), ((HB.out.cell (World.block_lt_of_cell? w _ hw212_7)).trans hw212_7), ((HB.out.cell (World.block_lt_of_cell? w _ hw212_8)).trans hw212_8), ((HB.out.cell (World.block_lt_of_cell? w _ hw212_9)).trans hw212_9), ((HB.out.cell (World.block_lt_of_cell? w _ hw212_10)).trans hw212_10), ((HB.out.cell (World.block_lt_of_cell? w _ hw213_0)).trans hw213_0), ((HB.out.cell (World.block_lt_of_cell? w _ hw213_1)).trans hw213_1), ((HB.out.cell (World.block_lt_of_cell? w _ hw213_2)).trans hw213_2), ((HB.out.cell (World.block_lt_of_cell? w _ hw213_3)).trans hw213_3), ((HB.out.cell (World.block_lt_of_cell? w _ hw213_4)).trans hw213_4), ((HB.out.cell (World.block_lt_of_cell? w _ hw213_5)).trans hw213_5), ((HB.out.cell (World.block_lt_of_cell? w _ hw213_6)).trans hw213_6), ((HB.out.cell (World.block_lt_of_cell? w _ hw213_7)).trans hw213_7), ((HB.out.cell (World.block_lt_of_cell? w _ hw213_8)).trans hw213_8), ((HB.out.cell (World.block_lt_of_cell? w _ hw213_9)).trans hw213_9), ((HB.out.cell (World.block_lt_of_cell? w _ hw213_10)).trans hw213_10), ((HB.out.cell (World.block_lt_of_cell? w _ hw214_0)).trans hw214_0), ((HB.out.cell (World.block_lt_of_cell? w _ hw214_1)).trans hw214_1), ((HB.out.cell (World.block_lt_of_cell? w _ hw214_2)).trans hw214_2), ((HB.out.cell (World.block_lt_of_cell? w _ hw214_3)).trans hw214_3), ((HB.out.cell (World.block_lt_of_cell? w _ hw214_4)).trans hw214_4), ((HB.out.cell (World.block_lt_of_cell? w _ hw214_5)).trans hw214_5), ((HB.out.cell (World.block_lt_of_cell? w _ hw214_6)).trans hw214_6), ((HB.out.cell (World.block_lt_of_cell? w _ hw214_7)).trans hw214_7), ((HB.out.cell (World.block_lt_of_cell? w _ hw214_8)).trans hw214_8), ((HB.out.cell (World.block_lt_of_cell? w _ hw214_9)).trans hw214_9), ((HB.out.cell (World.block_lt_of_cell? w _ hw214_10)).trans hw214_10), ((HB.out.cell (World.block_lt_of_cell? w _ hw215_0)).trans hw215_0), ((HB.out.cell (World.block_lt_of_cell? w _ hw215_1)).trans hw215_1), ((HB.out.cell (World.block_lt_of_cell? w _ hw215_2)).trans hw215_2), ((HB.out.cell (World.block_lt_of_cell? w _ hw215_3)).trans hw215_3), ((HB.out.cell (World.block_lt_of_cell? w _ hw215_4)).trans hw215_4), ((HB.out.cell (World.block_lt_of_cell? w _ hw215_5)).trans hw215_5), ((HB.out.cell (World.block_lt_of_cell? w _ hw215_6)).trans hw215_6), ((HB.out.cell (World.block_lt_of_cell? w _ hw215_7)).trans hw215_7), ((HB.out.cell (World.block_lt_of_cell? w _ hw215_8)).trans hw215_8), ((HB.out.cell (World.block_lt_of_cell? w _ hw215_9)).trans hw215_9), ((HB.out.cell (World.block_lt_of_cell? w _ hw215_10)).trans hw215_10), ((HB.out.cell (World.block_lt_of_cell? w _ hw216_0)).trans hw216_0), ((HB.out.cell (World.block_lt_of_cell? w _ hw216_1)).trans hw216_1), ((HB.out.cell (World.block_lt_of_cell? w _ hw216_2)).trans hw216_2), ((HB.out.cell (World.block_lt_of_cell? w _ hw216_3)).trans hw216_3), ((HB.out.cell (World.block_lt_of_cell? w _ hw216_4)).trans hw216_4), ((HB.out.cell (World.block_lt_of_cell? w _ hw216_5)).trans hw216_5), ((HB.out.cell (World.block_lt_of_cell? w _ hw216_6)).trans hw216_6), ((HB.out.cell (World.block_lt_of_cell? w _ hw216_7)).trans hw216_7), ((HB.out.cell (World.block_lt_of_cell? w _ hw216_8)).trans hw216_8), ((HB.out.cell (World.block_lt_of_cell? w _ hw216_9)).trans hw216_9), ((HB.out.cell (World.block_lt_of_cell? w _ hw216_10)).trans hw216_10), ((HB.out.cell (World.block_lt_of_cell? w _ hw217_0)).trans hw217_0), ((HB.out.cell (World.block_lt_of_cell? w _ hw217_1)).trans hw217_1), ((HB.out.cell (World.block_lt_of_cell? w _ hw217_2)).trans hw217_2), ((HB.out.cell (World.block_lt_of_cell? w _ hw217_3)).trans hw217_3), ((HB.out.cell (World.block_lt_of_cell? w _ hw217_4)).trans hw217_4), ((HB.out.cell (World.block_lt_of_cell? w _ hw217_5)).trans hw217_5), ((HB.out.cell (World.block_lt_of_cell? w _ hw217_6)).trans hw217_6), ((HB.out.cell (World.block_lt_of_cell? w _ hw217_7)).trans hw217_7), ((HB.out.cell (World.block_lt_of_cell? w _ hw217_8)).trans hw217_8), ((HB.out.cell (World.block_lt_of_cell? w _ hw217_9)).trans hw217_9), ((HB.out.cell (World.block_lt_of_cell? w _ hw217_10)).trans hw217_10)⟩ (fun hHeld => ?_); refine with_tabW fullerref23_Same.tab8 fullerref23_Same.bits8 (fun HT_ HW_ => ?_)
              generalize w13.drew = w21 at HB HR208_2 HR208_3 HR208_4 HR209_2 HR209_3 HR209_4 HR210_2 HR210_3 HR210_4 HR211_2 HR211_3 HR211_4 HR212_2 HR212_3 HR212_4 HR213_2 HR213_3 HR213_4 HR214_2 HR214_3 HR214_4 HR215_2 HR215_3 HR215_4 HR216_2 HR216_3 HR216_4 HR217_2 HR217_3 HR217_4 hx208_0 hx208_1 hx208_10 hx208_2 hx208_3 hx208_4 hx208_5 hx208_6 hx208_7 hx208_8 hx208_9 hx209_0 hx209_1 hx209_10 hx209_2 hx209_3 hx209_4 hx209_5 hx209_6 hx209_7 hx209_8 hx209_9 hx210_0 hx210_1 hx210_10 hx210_2 hx210_3 hx210_4 hx210_5 hx210_6 hx210_7 hx210_8 hx210_9 hx211_0 hx211_1 hx211_10 hx211_2 hx211_3 hx211_4 hx211_5 hx211_6 hx211_7 hx211_8 hx211_9 hx212_0 hx212_1 hx212_10 hx212_2 hx212_3 hx212_4 hx212_5 hx212_6 hx212_7 hx212_8 hx212_9 hx213_0 hx213_1 hx213_10 hx213_2 hx213_3 hx213_4 hx213_5 hx213_6 hx213_7 hx213_8 hx213_9 hx214_0 hx214_1 hx214_10 hx214_2 hx214_3 hx214_4 hx214_5 hx214_6 hx214_7 hx214_8 hx214_9 hx215_0 hx215_1 hx215_10 hx215_2 hx215_3 hx215_4 hx215_5 hx215_6 hx215_7 hx215_8 hx215_9 hx216_0 hx216_1 hx216_10 hx216_2 hx216_3 hx216_4 hx216_5 hx216_6 hx216_7 hx216_8 hx216_9 hx217_0 hx217_1 hx217_10 hx217_2 hx217_3 hx217_4 hx217_5 hx217_6 hx217_7 hx217_8 hx217_9 hHeld ⊢
              refine pu_ 0 (some 41) L14_14 HT_ ?_
              refine pu_ 1 (some 42) L14_15 HT_ ?_
              refine pu_ 2 (some 43) L14_16 HT_ ?_
              refine pu_ 3 (some 44) L14_17 HT_ ?_
              refine pu_ 4 (some 45) L14_18 HT_ ?_
              refine pu_ 5 (some 46) L14_19 HT_ ?_
              refine pu_ 6 (some 47) L14_20 HT_ ?_
              refine pu_ 7 (some 48) L14_21 HT_ ?_
              refine pu_ 8 (some 49) L14_22 HT_ ?_
              refine pu_ 9 (some 50) L14_23 HT_ ?_
              refine pu_ 10 (some 51) L14_24 HT_ ?_
              refine pu_ 12 (some 53) L14_25 HT_ ?_
              refine pu_ 13 (some 54) L14_26 HT_ ?_
              refine pu_ 14 (some 55) L14_27 HT_ ?_
              refine pu_ 15 (some 56) L14_28 HT_ ?_
              refine ta_ 11 (some 52) L14_29 HT_ HW_ hHeld ?_ (hy := by rintro w' ⟨s0, s1, s2, s3, s4, s5, s6, s7, s8, s9, s10, s11, s12, s13, s14, s15, s16, s17, s18, s19, s20, s21, s22, s23, s24, s25, s26, s27, s28, s29, s30, s31, s32, s33, s34, s35, s36, s37, s38, s39, s40, s41, s42, s43, s44, s45, s46, s47, s48, s49, s50, s51, s52, s53, s54, s55, s56, s57, s58, s59, s60, s61, s62, s63, s64, s65, s66, s67, s68, s69, s70, s71, s72, s73, s74, s75, s76, s77, s78, s79, s80, s81, s82, s83, s84, s85, s86, s87, s88, s89, s90, s91, s92, s93, s94, s95, s96, s97, s98, s99, s100, s101, s102, s103, s104, s105, s106, s107, s108, s109⟩; go_simp; with_reducible rfl)
              refine ta_ 16 (some 57) L14_30 HT_ HW_ hHeld ?_ (hy := by rintro w' ⟨s0, s1, s2, s3, s4, s5, s6, s7, s8, s9, s10, s11, s12, s13, s14, s15, s16, s17, s18, s19, s20, s21, s22, s23, s24, s25, s26, s27, s28, s29, s30, s31, s32, s33, s34, s35, s36, s37, s38, s39, s40, s41, s42, s43, s44, s45, s46, s47, s48, s49, s50, s51, s52, s53, s54, s55, s56, s57, s58, s59, s60, s61, s62, s63, s64, s65, s66, s67, s68, s69, s70, s71, s72, s73, s74, s75, s76, s77, s78, s79, s80, s81, s82, s83, s84, s85, s86, s87, s88, s89, s90, s91, s92, s93, s94, s95, s96, s97, s98, s99, s100, s101, s102, s103, s104, s105, s106, s107, s108, s109⟩; go_simp; with_reducible rfl)
              refine pu_ 17 (some 58) L14_31 HT_ ?_
              refine pu_ 18 (some 59) L14_32 HT_ ?_
              refine pu_ 19 (some 60) L14_33 HT_ ?_
              refine pu_ 20 (some 61) L14_34 HT_ ?_
              refine pu_ 21 (some 62) L14_35 HT_ ?_
              refine pu_ 22 (some 63) L14_36 HT_ ?_
              refine pu_ 23 (some 64) L14_37 HT_ ?_
              refine pu_ 25 (some 66) L14_38 HT_ ?_
              refine pu_ 26 (some 67) L14_39 HT_ ?_
              refine pu_ 27 (some 68) L14_40 HT_ ?_
              refine pu_ 28 (some 69) L14_41 HT_ ?_
              refine ta_ 24 (some 65) L14_42 HT_ HW_ hHeld ?_ (hy := by rintro w' ⟨s0, s1, s2, s3, s4, s5, s6, s7, s8, s9, s10, s11, s12, s13, s14, s15, s16, s17, s18, s19, s20, s21, s22, s23, s24, s25, s26, s27, s28, s29, s30, s31, s32, s33, s34, s35, s36, s37, s38, s39, s40, s41, s42, s43, s44, s45, s46, s47, s48, s49, s50, s51, s52, s53, s54, s55, s56, s57, s58, s59, s60, s61, s62, s63, s64, s65, s66, s67, s68, s69, s70, s71, s72, s73, s74, s75, s76, s77, s78, s79, s80, s81, s82, s83, s84, s85, s86, s87, s88, s89, s90, s91, s92, s93, s94, s95, s96, s97, s98, s99, s100, s101, s102, s103, s104, s105, s106, s107, s108, s109⟩; go_simp; with_reducible rfl)
              refine ta_ 29 (some 70) L14_43 HT_ HW_ hHeld ?_ (hy := by rintro w' ⟨s0, s1, s2, s3, s4, s5, s6, s7, s8, s9, s10, s11, s12, s13, s14, s15, s16, s17, s18, s19, s20, s21, s22, s23, s24, s25, s26, s27, s28, s29, s30, s31, s32, s33, s34, s35, s36, s37, s38, s39, s40, s41, s42, s43, s44, s45, s46, s47, s48, s49, s50, s51, s52, s53, s54, s55, s56, s57, s58, s59, s60, s61, s62, s63, s64, s65, s66, s67, s68, s69, s70, s71, s72, s73, s74, s75, s76, s77, s78, s79, s80, s81, s82, s83, s84, s85, s86, s87, s88, s89, s90, s91, s92, s93, s94, s95, s96, s97, s98, s99, s100, s101, s102, s103, s104, s105, s106, s107, s108, s109⟩; go_simp; with_reducible rfl)
              refine pu_ 30 (some 71) L14_44 HT_ ?_
              refine pu_ 31 (some 72) L14_45 HT_ ?_
              refine pu_ 32 (some 73) L14_46 HT_ ?_
              refine pu_ 33 (some 74) L14_47 HT_ ?_
              refine pu_ 34 (some 75) L14_48 HT_ ?_
              refine pu_ 35 (some 76) L14_49 HT_ ?_
              refine pu_ 36 (some 77) L14_50 HT_ ?_
              refine pu_ 38 (some 79) L14_51 HT_ ?_
              refine pu_ 39 (some 80) L14_52 HT_ ?_
              refine pu_ 40 (some 81) L14_53 HT_ ?_
              refine pu_ 41 (some 82) L14_54 HT_ ?_
              refine ta_ 37 (some 78) L14_55 HT_ HW_ hHeld ?_ (hy := by rintro w' ⟨s0, s1, s2, s3, s4, s5, s6, s7, s8, s9, s10, s11, s12, s13, s14, s15, s16, s17, s18, s19, s20, s21, s22, s23, s24, s25, s26, s27, s28, s29, s30, s31, s32, s33, s34, s35, s36, s37, s38, s39, s40, s41, s42, s43, s44, s45, s46, s47, s48, s49, s50, s51, s52, s53, s54, s55, s56, s57, s58, s59, s60, s61, s62, s63, s64, s65, s66, s67, s68, s69, s70, s71, s72, s73, s74, s75, s76, s77, s78, s79, s80, s81, s82, s83, s84, s85, s86, s87, s88, s89, s90, s91, s92, s93, s94, s95, s96, s97, s98, s99, s100, s101, s102, s103, s104, s105, s106, s107, s108, s109⟩; go_simp; with_reducible rfl)
              refine ta_ 42 (some 83) L14_56 HT_ HW_ hHeld ?_ (hy := by rintro w' ⟨s0, s1, s2, s3, s4, s5, s6, s7, s8, s9, s10, s11, s12, s13, s14, s15, s16, s17, s18, s19, s20, s21, s22, s23, s24, s25, s26, s27, s28, s29, s30, s31, s32, s33, s34, s35, s36, s37, s38, s39, s40, s41, s42, s43, s44, s45, s46, s47, s48, s49, s50, s51, s52, s53, s54, s55, s56, s57, s58, s59, s60, s61, s62, s63, s64, s65, s66, s67, s68, s69, s70, s71, s72, s73, s74, s75, s76, s77, s78, s79, s80, s81, s82, s83, s84, s85, s86, s87, s88, s89, s90, s91, s92, s93, s94, s95, s96, s97, s98, s99, s100, s101, s102, s103, s104, s105, s106, s107, s108, s109⟩; go_simp; with_reducible rfl)
              refine pu_ 43 (some 84) L14_57 HT_ ?_
              refine pu_ 44 (some 85) L14_58 HT_ ?_
              refine pu_ 45 (some 86) L14_59 HT_ ?_
              refine pu_ 46 (some 87) L14_65 HT_ ?_
              refine pu_ 47 (some 88) L14_66 HT_ ?_
              refine pu_ 48 (some 89) L14_67 HT_ ?_
              refine pu_ 49 (some 90) L14_68 HT_ ?_
              refine pu_ 51 (some 92) L14_69 HT_ ?_
              refine pu_ 52 (some 93) L14_70 HT_ ?_
              refine pu_ 53 (some 94) L14_71 HT_ ?_
              refine pu_ 54 (some 95) L14_72 HT_ ?_
              refine ta_ 50 (some 91) L14_73 HT_ HW_ hHeld ?_ (hy := by rintro w' ⟨s0, s1, s2, s3, s4, s5, s6, s7, s8, s9, s10, s11, s12, s13, s14, s15, s16, s17, s18, s19, s20, s21, s22, s23, s24, s25, s26, s27, s28, s29, s30, s31, s32, s33, s34, s35, s36, s37, s38, s39, s40, s41, s42, s43, s44, s45, s46, s47, s48, s49, s50, s51, s52, s53, s54, s55, s56, s57, s58, s59, s60, s61, s62, s63, s64, s65, s66, s67, s68, s69, s70, s71, s72, s73, s74, s75, s76, s77, s78, s79, s80, s81, s82, s83, s84, s85, s86, s87, s88, s89, s90, s91, s92, s93, s94, s95, s96, s97, s98, s99, s100, s101, s102, s103, s104, s105, s106, s107, s108, s109⟩; go_simp; with_reducible rfl)
              refine ta_ 55 (some 96) L14_74 HT_ HW_ hHeld ?_ (hy := by rintro w' ⟨s0, s1, s2, s3, s4, s5, s6, s7, s8, s9, s10, s11, s12, s13, s14, s15, s16, s17, s18, s19, s20, s21, s22, s23, s24, s25, s26, s27, s28, s29, s30, s31, s32, s33, s34, s35, s36, s37, s38, s39, s40, s41, s42, s43, s44, s45, s46, s47, s48, s49, s50, s51, s52, s53, s54, s55, s56, s57, s58, s59, s60, s61, s62, s63, s64, s65, s66, s67, s68, s69, s70, s71, s72, s73, s74, s75, s76, s77, s78, s79, s80, s81, s82, s83, s84, s85, s86, s87, s88, s89, s90, s91, s92, s93, s94, s95, s96, s97, s98, s99, s100, s101, s102, s103, s104, s105, s106, s107, s108, s109⟩; go_simp; with_reducible rfl)
              refine pu_ 56 (some 97) L14_60 HT_ ?_
              refine pu_ 57 (some 98) L14_61 HT_ ?_
              refine pu_ 58 (some 99) L14_62 HT_ ?_
              refine pu_ 59 (some 100) L14_75 HT_ ?_
              refine pu_ 60 (some 101) L14_76 HT_ ?_
              refine pu_ 61 (some 102) L14_77 HT_ ?_
              refine pu_ 62 (some 103) L14_78 HT_ ?_
              refine pu_ 64 (some 105) L14_79 HT_ ?_
              refine pu_ 65 (some 106) L14_80 HT_ ?_
              refine pu_ 66 (some 107) L14_81 HT_ ?_
              refine pu_ 67 (some 108) L14_82 HT_ ?_
              refine ta_ 63 (some 104) L14_83 HT_ HW_ hHeld ?_ (hy := by rintro w' ⟨s0, s1, s2, s3, s4, s5, s6, s7, s8, s9, s10, s11, s12, s13, s14, s15, s16, s17, s18, s19, s20, s21, s22, s23, s24, s25, s26, s27, s28, s29, s30, s31, s32, s33, s34, s35, s36, s37, s38, s39, s40, s41, s42, s43, s44, s45, s46, s47, s48, s49, s50, s51, s52, s53, s54, s55, s56, s57, s58, s59, s60, s61, s62, s63, s64, s65, s66, s67, s68, s69, s70, s71, s72, s73, s74, s75, s76, s77, s78, s79, s80, s81, s82, s83, s84, s85, s86, s87, s88, s89, s90, s91, s92, s93, s94, s95, s96, s97, s98, s99, s100, s101, s102, s103, s104, s105, s106, s107, s108, s109⟩; go_simp; with_reducible rfl)
              refine ta_ 68 (some 109) L14_84 HT_ HW_ hHeld ?_ (hy := by rintro w' ⟨s0, s1, s2, s3, s4, s5, s6, s7, s8, s9, s10, s11, s12, s13, s14, s15, s16, s17, s18, s19, s20, s21, s22, s23, s24, s25, s26, s27, s28, s29, s30, s31, s32, s33, s34, s35, s36, s37, s38, s39, s40, s41, s42, s43, s44, s45, s46, s47, s48, s49, s50, s51, s52, s53, s54, s55, s56, s57, s58, s59, s60, s61, s62, s63, s64, s65, s66, s67, s68, s69, s70, s71, s72, s73, s74, s75, s76, s77, s78, s79, s80, s81, s82, s83, s84, s85, s86, s87, s88, s89, s90, s91, s92, s93, s94, s95, s96, s97, s98, s99, s100, s101, s102, s103, s104, s105, s106, s107, s108, s109⟩; go_simp; with_reducible rfl)
              refine pu_ 69 (some 110) L14_63 HT_ ?_
              refine pu_ 70 (some 111) L14_64 HT_ ?_
              refine done_ (done_of HT_.out (by kernel_rfl)) ?_
              try go_wp2
              go_meet
              case rel => exact ⟨_, ((((rd_T30 l0 x5_1).f6) != ((rd_T30 l1 x5_1).f6))), (by first | rfl | (simp; done) | (simp [*]; done)), H', ⟨by have := HK1.out; first | omega | exact Nat.le_refl _⟩, ⟨bq0_ HB.out⟩⟩
             ·rw [if_neg c20] at H
              have c20b0 : (((rd_T30 l0 x5_1).f5) == ((rd_T30 l1 x5_1).f5)) = false := beq_eq_false_iff_ne.mpr c20
              have c20b1 : (((rd_T30 l0 x5_1).f5) != ((rd_T30 l1 x5_1).f5)) = true := bne_iff_ne.mpr c20
              have H' := Aside0.mk H
              clear H
              try go_wp2
              replace HB := Aside0.mk (below_drew1 HB.out)
              have p208 : 0 ≤ (x5_1 : Int) := od_
              have q208 : x5_1 < (l0.length : Int) := od_
              obtain ⟨ad208, A208_2, c208_2, A208_3, c208_3, A208_4, c208_4, e208, hx208_0, hx208_1, hx208_2, hx208_3, hx208_4, hx208_5, hx208_6, hx208_7, hx208_8, hx208_9, hx208_10, hl208_2, hi208_2, hl208_3, hi208_3, hl208_4, hi208_4⟩ := at_T30 HR0.out x5_1 p208 q208
              have hw208_10 := hx208_10
              have hw208_9 := hx208_9
              have hw208_8 := hx208_8
              have hw208_7 := hx208_7
              have hw208_6 := hx208_6
              have hw208_5 := hx208_5
              have hw208_4 := hx208_4
              have hw208_3 := hx208_3
              have hw208_2 := hx208_2
              have hw208_1 := hx208_1
              have hw208_0 := hx208_0
              obtain rfl : ad202 = ad208 := (by injection e208)
              replace hx208_0 := hb_ HB hx208_0
              replace hx208_1 := hb_ HB hx208_1
              replace hx208_2 := hb_ HB hx208_2
              replace hx208_3 := hb_ HB hx208_3
              replace hx208_4 := hb_ HB hx208_4
              replace hx208_5 := hb_ HB hx208_5
              replace hx208_6 := hb_ HB hx208_6
              replace hx208_7 := hb_ HB hx208_7
              replace hx208_8 := hb_ HB hx208_8
              replace hx208_9 := hb_ HB hx208_9
              replace hx208_10 := hb_ HB hx208_10
              have HR208_2 := Aside0.mk hi208_2
              have HC208_2 := Aside0.mk hl208_2
              clear hi208_2 hl208_2
              have HR208_3 := Aside0.mk hi208_3
              have HC208_3 := Aside0.mk hl208_3
              clear hi208_3 hl208_3
              have HR208_4 := Aside0.mk hi208_4
              have HC208_4 := Aside0.mk hl208_4
              clear hi208_4 hl208_4
              replace p208 := eq_true p208
              replace q208 := eq_true q208
              have p209 : 0 ≤ (x5_1 : Int) := od_
              have q209 : x5_1 < (l1.length : Int) := od_
              obtain ⟨ad209, A209_2, c209_2, A209_3, c209_3, A209_4, c209_4, e209, hx209_0, hx209_1, hx209_2, hx209_3, hx209_4, hx209_5, hx209_6, hx209_7, hx209_8, hx209_9, hx209_10, hl209_2, hi209_2, hl209_3, hi209_3, hl209_4, hi209_4⟩ := at_T30 HR1.out x5_1 p209 q209
              have hw209_10 := hx209_10
              have hw209_9 := hx209_9
              have hw209_8 := hx209_8
              have hw209_7 := hx209_7
              have hw209_6 := hx209_6
              have hw209_5 := hx209_5
              have hw209_4 := hx209_4
              have hw209_3 := hx209_3
              have hw209_2 := hx209_2
              have hw209_1 := hx209_1
              have hw209_0 := hx209_0
              obtain rfl : ad203 = ad209 := (by injection e209)
              replace hx209_0 := hb_ HB hx209_0
              replace hx209_1 := hb_ HB hx209_1
              replace hx209_2 := hb_ HB hx209_2
              replace hx209_3 := hb_ HB hx209_3
              replace hx209_4 := hb_ HB hx209_4
              replace hx209_5 := hb_ HB hx209_5
              replace hx209_6 := hb_ HB hx209_6
              replace hx209_7 := hb_ HB hx209_7
              replace hx209_8 := hb_ HB hx209_8
              replace hx209_9 := hb_ HB hx209_9
              replace hx209_10 := hb_ HB hx209_10
              have HR209_2 := Aside0.mk hi209_2
              have HC209_2 := Aside0.mk hl209_2
              clear hi209_2 hl209_2
              have HR209_3 := Aside0.mk hi209_3
              have HC209_3 := Aside0.mk hl209_3
              clear hi209_3 hl209_3
              have HR209_4 := Aside0.mk hi209_4
              have HC209_4 := Aside0.mk hl209_4
              clear hi209_4 hl209_4
              replace p209 := eq_true p209
              replace q209 := eq_true q209
              have p210 : 0 ≤ (x5_1 : Int) := od_
              have q210 : x5_1 < (l0.length : Int) := od_
              obtain ⟨ad210, A210_2, c210_2, A210_3, c210_3, A210_4, c210_4, e210, hx210_0, hx210_1, hx210_2, hx210_3, hx210_4, hx210_5, hx210_6, hx210_7, hx210_8, hx210_9, hx210_10, hl210_2, hi210_2, hl210_3, hi210_3, hl210_4, hi210_4⟩ := at_T30 HR0.out x5_1 p210 q210
              have hw210_10 := hx210_10
              have hw210_9 := hx210_9
              have hw210_8 := hx210_8
              have hw210_7 := hx210_7
              have hw210_6 := hx210_6
              have hw210_5 := hx210_5
              have hw210_4 := hx210_4
              have hw210_3 := hx210_3
              have hw210_2 := hx210_2
              have hw210_1 := hx210_1
              have hw210_0 := hx210_0
              obtain rfl : ad202 = ad210 := (by injection e210)
              replace hx210_0 := hb_ HB hx210_0
              replace hx210_1 := hb_ HB hx210_1
              replace hx210_2 := hb_ HB hx210_2
              replace hx210_3 := hb_ HB hx210_3
              replace hx210_4 := hb_ HB hx210_4
              replace hx210_5 := hb_ HB hx210_5
              replace hx210_6 := hb_ HB hx210_6
              replace hx210_7 := hb_ HB hx210_7
              replace hx210_8 := hb_ HB hx210_8
              replace hx210_9 := hb_ HB hx210_9
              replace hx210_10 := hb_ HB hx210_10
              have HR210_2 := Aside0.mk hi210_2
              have HC210_2 := Aside0.mk hl210_2
              clear hi210_2 hl210_2
              have HR210_3 := Aside0.mk hi210_3
              have HC210_3 := Aside0.mk hl210_3
              clear hi210_3 hl210_3
              have HR210_4 := Aside0.mk hi210_4
              have HC210_4 := Aside0.mk hl210_4
              clear hi210_4 hl210_4
              replace p210 := eq_true p210
              replace q210 := eq_true q210
              have ea_ := Option.some.inj (hx208_2.symm.trans hx210_2)
              injection ea_ with ea_ en_ ec_
              subst ea_
              subst ec_
              clear en_
              have ea_ := Option.some.inj (hx208_3.symm.trans hx210_3)
              injection ea_ with ea_ en_ ec_
              subst ea_
              subst ec_
              clear en_
              have ea_ := Option.some.inj (hx208_4.symm.trans hx210_4)
              injection ea_ with ea_ en_ ec_
              subst ea_
              subst ec_
              clear en_
              have p211 : 0 ≤ (x5_1 : Int) := od_
              have q211 : x5_1 < (l1.length : Int) := od_
              obtain ⟨ad211, A211_2, c211_2, A211_3, c211_3, A211_4, c211_4, e211, hx211_0, hx211_1, hx211_2, hx211_3, hx211_4, hx211_5, hx211_6, hx211_7, hx211_8, hx211_9, hx211_10, hl211_2, hi211_2, hl211_3, hi211_3, hl211_4, hi211_4⟩ := at_T30 HR1.out x5_1 p211 q211
              have hw211_10 := hx211_10
              have hw211_9 := hx211_9
              have hw211_8 := hx211_8
              have hw211_7 := hx211_7
              have hw211_6 := hx211_6
              have hw211_5 := hx211_5
              have hw211_4 := hx211_4
              have hw211_3 := hx211_3
              have hw211_2 := hx211_2
              have hw211_1 := hx211_1
              have hw211_0 := hx211_0
              obtain rfl : ad203 = ad211 := (by injection e211)
              replace hx211_0 := hb_ HB hx211_0
              replace hx211_1 := hb_ HB hx211_1
              replace hx211_2 := hb_ HB hx211_2
              replace hx211_3 := hb_ HB hx211_3
              replace hx211_4 := hb_ HB hx211_4
              replace hx211_5 := hb_ HB hx211_5
              replace hx211_6 := hb_ HB hx211_6
              replace hx211_7 := hb_ HB hx211_7
              replace hx211_8 := hb_ HB hx211_8
              replace hx211_9 := hb_ HB hx211_9
              replace hx211_10 := hb_ HB hx211_10
              have HR211_2 := Aside0.mk hi211_2
              have HC211_2 := Aside0.mk hl211_2
              clear hi211_2 hl211_2
              have HR211_3 := Aside0.mk hi211_3
              have HC211_3 := Aside0.mk hl211_3
              clear hi211_3 hl211_3
              have HR211_4 := Aside0.mk hi211_4
              have HC211_4 := Aside0.mk hl211_4
              clear hi211_4 hl211_4
              replace p211 := eq_true p211
              replace q211 := eq_true q211
              have ea_ := Option.some.inj (hx209_2.symm.trans hx211_2)
              injection ea_ with ea_ en_ ec_
              subst ea_
              subst ec_
              clear en_
              have ea_ := Option.some.inj (hx209_3.symm.trans hx211_3)
              injection ea_ with ea_ en_ ec_
              subst ea_
              subst ec_
              clear en_
              have ea_ := Option.some.inj (hx209_4.symm.trans hx211_4)
              injection ea_ with ea_ en_ ec_
              subst ea_
              subst ec_
              clear en_
              have p212 : 0 ≤ (x5_1 : Int) := od_
              have q212 : x5_1 < (l0.length : Int) := od_
              obtain ⟨ad212, A212_2, c212_2, A212_3, c212_3, A212_4, c212_4, e212, hx212_0, hx212_1, hx212_2, hx212_3, hx212_4, hx212_5, hx212_6, hx212_7, hx212_8, hx212_9, hx212_10, hl212_2, hi212_2, hl212_3, hi212_3, hl212_4, hi212_4⟩ := at_T30 HR0.out x5_1 p212 q212
              have hw212_10 := hx212_10
              have hw212_9 := hx212_9
              have hw212_8 := hx212_8
              have hw212_7 := hx212_7
              have hw212_6 := hx212_6
              have hw212_5 := hx212_5
              have hw212_4 := hx212_4
              have hw212_3 := hx212_3
              have hw212_2 := hx212_2
              have hw212_1 := hx212_1
              have hw212_0 := hx212_0
              obtain rfl : ad202 = ad212 := (by injection e212)
              replace hx212_0 := hb_ HB hx212_0
              replace hx212_1 := hb_ HB hx212_1
              replace hx212_2 := hb_ HB hx212_2
              replace hx212_3 := hb_ HB hx212_3
              replace hx212_4 := hb_ HB hx212_4
              replace hx212_5 := hb_ HB hx212_5
              replace hx212_6 := hb_ HB hx212_6
              replace hx212_7 := hb_ HB hx212_7
              replace hx212_8 := hb_ HB hx212_8
              replace hx212_9 := hb_ HB hx212_9
              replace hx212_10 := hb_ HB hx212_10
              have HR212_2 := Aside0.mk hi212_2
              have HC212_2 := Aside0.mk hl212_2
              clear hi212_2 hl212_2
              have HR212_3 := Aside0.mk hi212_3
              have HC212_3 := Aside0.mk hl212_3
              clear hi212_3 hl212_3
              have HR212_4 := Aside0.mk hi212_4
              have HC212_4 := Aside0.mk hl212_4
              clear hi212_4 hl212_4
              replace p212 := eq_true p212
              replace q212 := eq_true q212
              have ea_ := Option.some.inj (hx208_2.symm.trans hx212_2)
              injection ea_ with ea_ en_ ec_
              subst ea_
              subst ec_
              clear en_
              have ea_ := Option.some.inj (hx208_3.symm.trans hx212_3)
              injection ea_ with ea_ en_ ec_
              subst ea_
              subst ec_
              clear en_
              have ea_ := Option.some.inj (hx208_4.symm.trans hx212_4)
              injection ea_ with ea_ en_ ec_
              subst ea_
              subst ec_
              clear en_
              have p213 : 0 ≤ (x5_1 : Int) := od_
              have q213 : x5_1 < (l1.length : Int) := od_
              obtain ⟨ad213, A213_2, c213_2, A213_3, c213_3, A213_4, c213_4, e213, hx213_0, hx213_1, hx213_2, hx213_3, hx213_4, hx213_5, hx213_6, hx213_7, hx213_8, hx213_9, hx213_10, hl213_2, hi213_2, hl213_3, hi213_3, hl213_4, hi213_4⟩ := at_T30 HR1.out x5_1 p213 q213
              have hw213_10 := hx213_10
              have hw213_9 := hx213_9
              have hw213_8 := hx213_8
              have hw213_7 := hx213_7
              have hw213_6 := hx213_6
              have hw213_5 := hx213_5
              have hw213_4 := hx213_4
              have hw213_3 := hx213_3
              have hw213_2 := hx213_2
              have hw213_1 := hx213_1
              have hw213_0 := hx213_0
              obtain rfl : ad203 = ad213 := (by injection e213)
              replace hx213_0 := hb_ HB hx213_0
              replace hx213_1 := hb_ HB hx213_1
              replace hx213_2 := hb_ HB hx213_2
              replace hx213_3 := hb_ HB hx213_3
              replace hx213_4 := hb_ HB hx213_4
              replace hx213_5 := hb_ HB hx213_5
              replace hx213_6 := hb_ HB hx213_6
              replace hx213_7 := hb_ HB hx213_7
              replace hx213_8 := hb_ HB hx213_8
              replace hx213_9 := hb_ HB hx213_9
              replace hx213_10 := hb_ HB hx213_10
              have HR213_2 := Aside0.mk hi213_2
              have HC213_2 := Aside0.mk hl213_2
              clear hi213_2 hl213_2
              have HR213_3 := Aside0.mk hi213_3
              have HC213_3 := Aside0.mk hl213_3
              clear hi213_3 hl213_3
              have HR213_4 := Aside0.mk hi213_4
              have HC213_4 := Aside0.mk hl213_4
              clear hi213_4 hl213_4
              replace p213 := eq_true p213
              replace q213 := eq_true q213
              have ea_ := Option.some.inj (hx209_2.symm.trans hx213_2)
              injection ea_ with ea_ en_ ec_
              subst ea_
              subst ec_
              clear en_
              have ea_ := Option.some.inj (hx209_3.symm.trans hx213_3)
              injection ea_ with ea_ en_ ec_
              subst ea_
              subst ec_
              clear en_
              have ea_ := Option.some.inj (hx209_4.symm.trans hx213_4)
              injection ea_ with ea_ en_ ec_
              subst ea_
              subst ec_
              clear en_
              have p214 : 0 ≤ (x5_1 : Int) := od_
              have q214 : x5_1 < (l0.length : Int) := od_
              obtain ⟨ad214, A214_2, c214_2, A214_3, c214_3, A214_4, c214_4, e214, hx214_0, hx214_1, hx214_2, hx214_3, hx214_4, hx214_5, hx214_6, hx214_7, hx214_8, hx214_9, hx214_10, hl214_2, hi214_2, hl214_3, hi214_3, hl214_4, hi214_4⟩ := at_T30 HR0.out x5_1 p214 q214
              have hw214_10 := hx214_10
              have hw214_9 := hx214_9
              have hw214_8 := hx214_8
              have hw214_7 := hx214_7
              have hw214_6 := hx214_6
              have hw214_5 := hx214_5
              have hw214_4 := hx214_4
              have hw214_3 := hx214_3
              have hw214_2 := hx214_2
              have hw214_1 := hx214_1
              have hw214_0 := hx214_0
              obtain rfl : ad202 = ad214 := (by injection e214)
              replace hx214_0 := hb_ HB hx214_0
              replace hx214_1 := hb_ HB hx214_1
              replace hx214_2 := hb_ HB hx214_2
              replace hx214_3 := hb_ HB hx214_3
              replace hx214_4 := hb_ HB hx214_4
              replace hx214_5 := hb_ HB hx214_5
              replace hx214_6 := hb_ HB hx214_6
              replace hx214_7 := hb_ HB hx214_7
              replace hx214_8 := hb_ HB hx214_8
              replace hx214_9 := hb_ HB hx214_9
              replace hx214_10 := hb_ HB hx214_10
              have HR214_2 := Aside0.mk hi214_2
              have HC214_2 := Aside0.mk hl214_2
              clear hi214_2 hl214_2
              have HR214_3 := Aside0.mk hi214_3
              have HC214_3 := Aside0.mk hl214_3
              clear hi214_3 hl214_3
              have HR214_4 := Aside0.mk hi214_4
              have HC214_4 := Aside0.mk hl214_4
              clear hi214_4 hl214_4
              replace p214 := eq_true p214
              replace q214 := eq_true q214
              have ea_ := Option.some.inj (hx208_2.symm.trans hx214_2)
              injection ea_ with ea_ en_ ec_
              subst ea_
              subst ec_
              clear en_
              have ea_ := Option.some.inj (hx208_3.symm.trans hx214_3)
              injection ea_ with ea_ en_ ec_
              subst ea_
              subst ec_
              clear en_
              have ea_ := Option.some.inj (hx208_4.symm.trans hx214_4)
              injection ea_ with ea_ en_ ec_
              subst ea_
              subst ec_
              clear en_
              have p215 : 0 ≤ (x5_1 : Int) := od_
              have q215 : x5_1 < (l1.length : Int) := od_
              obtain ⟨ad215, A215_2, c215_2, A215_3, c215_3, A215_4, c215_4, e215, hx215_0, hx215_1, hx215_2, hx215_3, hx215_4, hx215_5, hx215_6, hx215_7, hx215_8, hx215_9, hx215_10, hl215_2, hi215_2, hl215_3, hi215_3, hl215_4, hi215_4⟩ := at_T30 HR1.out x5_1 p215 q215
              have hw215_10 := hx215_10
              have hw215_9 := hx215_9
              have hw215_8 := hx215_8
              have hw215_7 := hx215_7
              have hw215_6 := hx215_6
              have hw215_5 := hx215_5
              have hw215_4 := hx215_4
              have hw215_3 := hx215_3
              have hw215_2 := hx215_2
              have hw215_1 := hx215_1
              have hw215_0 := hx215_0
              obtain rfl : ad203 = ad215 := (by injection e215)
              replace hx215_0 := hb_ HB hx215_0
              replace hx215_1 := hb_ HB hx215_1
              replace hx215_2 := hb_ HB hx215_2
              replace hx215_3 := hb_ HB hx215_3
              replace hx215_4 := hb_ HB hx215_4
              replace hx215_5 := hb_ HB hx215_5
              replace hx215_6 := hb_ HB hx215_6
              replace hx215_7 := hb_ HB hx215_7
              replace hx215_8 := hb_ HB hx215_8
              replace hx215_9 := hb_ HB hx215_9
              replace hx215_10 := hb_ HB hx215_10
              have HR215_2 := Aside0.mk hi215_2
              have HC215_2 := Aside0.mk hl215_2
              clear hi215_2 hl215_2
              have HR215_3 := Aside0.mk hi215_3
              have HC215_3 := Aside0.mk hl215_3
              clear hi215_3 hl215_3
              have HR215_4 := Aside0.mk hi215_4
              have HC215_4 := Aside0.mk hl215_4
              clear hi215_4 hl215_4
              replace p215 := eq_true p215
              replace q215 := eq_true q215
              have ea_ := Option.some.inj (hx209_2.symm.trans hx215_2)
              injection ea_ with ea_ en_ ec_
              subst ea_
              subst ec_
              clear en_
              have ea_ := Option.some.inj (hx209_3.symm.trans hx215_3)
              injection ea_ with ea_ en_ ec_
              subst ea_
              subst ec_
              clear en_
              have ea_ := Option.some.inj (hx209_4.symm.trans hx215_4)
              injection ea_ with ea_ en_ ec_
              subst ea_
              subst ec_
              clear en_
              refine start_ (n := 71) (S := fun w' => w'.cell? (ad202.add ((x5_1).toNat * 11)) = some (.int .i64 ((rd_T30 l0 x5_1).f0)) ∧ w'.cell? ⟨(ad202.add ((x5_1).toNat * 11)).block, (ad202.add ((x5_1).toNat * 11)).off + 1, none⟩ = some (.int .i64 ((rd_T30 l0 x5_1).f1)) ∧ w'.cell? ⟨(ad202.add ((x5_1).toNat * 11)).block, (ad202.add ((x5_1).toNat * 11)).off + 2, none⟩ = some (.slice A208_2 ((rd_T30 l0 x5_1).f2).length c208_2) ∧ w'.cell? ⟨(ad202.add ((x5_1).toNat * 11)).block, (ad202.add ((x5_1).toNat * 11)).off + 3, none⟩ = some (.slice A208_3 ((rd_T30 l0 x5_1).f3.f0).length c208_3) ∧ w'.cell? ⟨(ad202.add ((x5_1).toNat * 11)).block, (ad202.add ((x5_1).toNat * 11)).off + 4, none⟩ = some (.slice A208_4 ((rd_T30 l0 x5_1).f3.f1).length c208_4) ∧ w'.cell? ⟨(ad202.add ((x5_1).toNat * 11)).block, (ad202.add ((x5_1).toNat * 11)).off + 5, none⟩ = some (.int .i64 ((rd_T30 l0 x5_1).f4.f0)) ∧ w'.cell? ⟨(ad202.add ((x5_1).toNat * 11)).block, (ad202.add ((x5_1).toNat * 11)).off + 6, none⟩ = some (.int .i64 ((rd_T30 l0 x5_1).f4.f1)) ∧ w'.cell? ⟨(ad202.add ((x5_1).toNat * 11)).block, (ad202.add ((x5_1).toNat * 11)).off + 7, none⟩ = some (.int .i64 ((rd_T30 l0 x5_1).f4.f2)) ∧ w'.cell? ⟨(ad202.add ((x5_1).toNat * 11)).block, (ad202.add ((x5_1).toNat * 11)).off + 8, none⟩ = some (.int .i64 ((rd_T30 l0 x5_1).f4.f3)) ∧ w'.cell? ⟨(ad202.add ((x5_1).toNat * 11)).block, (ad202.add ((x5_1).toNat * 11)).off + 9, none⟩ = some (.int .i64 ((rd_T30 l0 x5_1).f5)) ∧ w'.cell? ⟨(ad202.add ((x5_1).toNat * 11)).block, (ad202.add ((x5_1).toNat * 11)).off + 10, none⟩ = some (.int .i64 ((rd_T30 l0 x5_1).f6)) ∧ w'.cell? (ad203.add ((x5_1).toNat * 11)) = some (.int .i64 ((rd_T30 l1 x5_1).f0)) ∧ w'.cell? ⟨(ad203.add ((x5_1).toNat * 11)).block, (ad203.add ((x5_1).toNat * 11)).off + 1, none⟩ = some (.int .i64 ((rd_T30 l1 x5_1).f1)) ∧ w'.cell? ⟨(ad203.add ((x5_1).toNat * 11)).block, (ad203.add ((x5_1).toNat * 11)).off + 2, none⟩ = some (.slice A209_2 ((rd_T30 l1 x5_1).f2).length c209_2) ∧ w'.cell? ⟨(ad203.add ((x5_1).toNat * 11)).block, (ad203.add ((x5_1).toNat * 11)).off + 3, none⟩ = some (.slice A209_3 ((rd_T30 l1 x5_1).f3.f0).length c209_3) ∧ w'.cell? ⟨(ad203.add ((x5_1).toNat * 11)).block, (ad203.add ((x5_1).toNat * 11)).off + 4, none⟩ = some (.slice A209_4 ((rd_T30 l1 x5_1).f3.f1).length c209_4) ∧ w'.cell? ⟨(ad203.add ((x5_1).toNat * 11)).block, (ad203.add ((x5_1).toNat * 11)).off + 5, none⟩ = some (.int .i64 ((rd_T30 l1 x5_1).f4.f0)) ∧ w'.cell? ⟨(ad203.add ((x5_1).toNat * 11)).block, (ad203.add ((x5_1).toNat * 11)).off + 6, none⟩ = some (.int .i64 ((rd_T30 l1 x5_1).f4.f1)) ∧ w'.cell? ⟨(ad203.add ((x5_1).toNat * 11)).block, (ad203.add ((x5_1).toNat * 11)).off + 7, none⟩ = some (.int .i64 ((rd_T30 l1 x5_1).f4.f2)) ∧ w'.cell? ⟨(ad203.add ((x5_1).toNat * 11)).block, (ad203.add ((x5_1).toNat * 11)).off + 8, none⟩ = some (.int .i64 ((rd_T30 l1 x5_1).f4.f3)) ∧ w'.cell? ⟨(ad203.add ((x5_1).toNat * 11)).block, (ad203.add ((x5_1).toNat * 11)).off + 9, none⟩ = some (.int .i64 ((rd_T30 l1 x5_1).f5)) ∧ w'.cell? ⟨(ad203.add ((x5_1).toNat * 11)).block, (ad203.add ((x5_1).toNat * 11)).off + 10, none⟩ = some (.int .i64 ((rd_T30 l1 x5_1).f6)) ∧ w'.cell? (ad202.add ((x5_1).toNat * 11)) = some (.int .i64 ((rd_T30 l0 x5_1).f0)) ∧ w'.cell? ⟨(ad202.add ((x5_1).toNat * 11)).block, (ad202.add ((x5_1).toNat * 11)).off + 1, none⟩ = some (.int .i64 ((rd_T30 l0 x5_1).f1)) ∧ w'.cell? ⟨(ad202.add ((x5_1).toNat * 11)).block, (ad202.add ((x5_1).toNat * 11)).off + 2, none⟩ = some (.slice A208_2 ((rd_T30 l0 x5_1).f2).length c208_2) ∧ w'.cell? ⟨(ad202.add ((x5_1).toNat * 11)).block, (ad202.add ((x5_1).toNat * 11)).off + 3, none⟩ = some (.slice A208_3 ((rd_T30 l0 x5_1).f3.f0).length c208_3) ∧ w'.cell? ⟨(ad202.add ((x5_1).toNat * 11)).block, (ad202.add ((x5_1).toNat * 11)).off + 4, none⟩ = some (.slice A208_4 ((rd_T30 l0 x5_1).f3.f1).length c208_4) ∧ w'.cell? ⟨(ad202.add ((x5_1).toNat * 11)).block, (ad202.add ((x5_1).toNat * 11)).off + 5, none⟩ = some (.int .i64 ((rd_T30 l0 x5_1).f4.f0)) ∧ w'.cell? ⟨(ad202.add ((x5_1).toNat * 11)).block, (ad202.add ((x5_1).toNat * 11)).off + 6, none⟩ = some (.int .i64 ((rd_T30 l0 x5_1).f4.f1)) ∧ w'.cell? ⟨(ad202.add ((x5_1).toNat * 11)).block, (ad202.add ((x5_1).toNat * 11)).off + 7, none⟩ = some (.int .i64 ((rd_T30 l0 x5_1).f4.f2)) ∧ w'.cell? ⟨(ad202.add ((x5_1).toNat * 11)).block, (ad202.add ((x5_1).toNat * 11)).off + 8, none⟩ = some (.int .i64 ((rd_T30 l0 x5_1).f4.f3)) ∧ w'.cell? ⟨(ad202.add ((x5_1).toNat * 11)).block, (ad202.add ((x5_1).toNat * 11)).off + 9, none⟩ = some (.int .i64 ((rd_T30 l0 x5_1).f5)) ∧ w'.cell? ⟨(ad202.add ((x5_1).toNat * 11)).block, (ad202.add ((x5_1).toNat * 11)).off + 10, none⟩ = some (.int .i64 ((rd_T30 l0 x5_1).f6)) ∧ w'.cell? (ad203.add ((x5_1).toNat * 11)) = some (.int .i64 ((rd_T30 l1 x5_1).f0)) ∧ w'.cell? ⟨(ad203.add ((x5_1).toNat * 11)).block, (ad203.add ((x5_1).toNat * 11)).off + 1, none⟩ = some (.int .i64 ((rd_T30 l1 x5_1).f1)) ∧ w'.cell? ⟨(ad203.add ((x5_1).toNat * 11)).block, (ad203.add ((x5_1).toNat * 11)).off + 2, none⟩ = some (.slice A209_2 ((rd_T30 l1 x5_1).f2).length c209_2) ∧ w'.cell? ⟨(ad203.add ((x5_1).toNat * 11)).block, (ad203.add ((x5_1).toNat * 11)).off + 3, none⟩ = some (.slice A209_3 ((rd_T30 l1 x5_1).f3.f0).length c209_3) ∧ w'.cell? ⟨(ad203.add ((x5_1).toNat * 11)).block, (ad203.add ((x5_1).toNat * 11)).off + 4, none⟩ = some (.slice A209_4 ((rd_T30 l1 x5_1).f3.f1).length c209_4) ∧ w'.cell? ⟨(ad203.add ((x5_1).toNat * 11)).block, (ad203.add ((x5_1).toNat * 11)).off + 5, none⟩ = some (.int .i64 ((rd_T30 l1 x5_1).f4.f0)) ∧ w'.cell? ⟨(ad203.add ((x5_1).toNat * 11)).block, (ad203.add ((x5_1).toNat * 11)).off + 6, none⟩ = some (.int .i64 ((rd_T30 l1 x5_1).f4.f1)) ∧ w'.cell? ⟨(ad203.add ((x5_1).toNat * 11)).block, (ad203.add ((x5_1).toNat * 11)).off + 7, none⟩ = some (.int .i64 ((rd_T30 l1 x5_1).f4.f2)) ∧ w'.cell? ⟨(ad203.add ((x5_1).toNat * 11)).block, (ad203.add ((x5_1).toNat * 11)).off + 8, none⟩ = some (.int .i64 ((rd_T30 l1 x5_1).f4.f3)) ∧ w'.cell? ⟨(ad203.add ((x5_1).toNat * 11)).block, (ad203.add ((x5_1).toNat * 11)).off + 9, none⟩ = some (.int .i64 ((rd_T30 l1 x5_1).f5)) ∧ w'.cell? ⟨(ad203.add ((x5_1).toNat * 11)).block, (ad203.add ((x5_1).toNat * 11)).off + 10, none⟩ = some (.int .i64 ((rd_T30 l1 x5_1).f6)) ∧ w'.cell? (ad202.add ((x5_1).toNat * 11)) = some (.int .i64 ((rd_T30 l0 x5_1).f0)) ∧ w'.cell? ⟨(ad202.add ((x5_1).toNat * 11)).block, (ad202.add ((x5_1).toNat * 11)).off + 1, none⟩ = some (.int .i64 ((rd_T30 l0 x5_1).f1)) ∧ w'.cell? ⟨(ad202.add ((x5_1).toNat * 11)).block, (ad202.add ((x5_1).toNat * 11)).off + 2, none⟩ = some (.slice A208_2 ((rd_T30 l0 x5_1).f2).length c208_2) ∧ w'.cell? ⟨(ad202.add ((x5_1).toNat * 11)).block, (ad202.add ((x5_1).toNat * 11)).off + 3, none⟩ = some (.slice A208_3 ((rd_T30 l0 x5_1).f3.f0).length c208_3) ∧ w'.cell? ⟨(ad202.add ((x5_1).toNat * 11)).block, (ad202.add ((x5_1).toNat * 11)).off + 4, none⟩ = some (.slice A208_4 ((rd_T30 l0 x5_1).f3.f1).length c208_4) ∧ w'.cell? ⟨(ad202.add ((x5_1).toNat * 11)).block, (ad202.add ((x5_1).toNat * 11)).off + 5, none⟩ = some (.int .i64 ((rd_T30 l0 x5_1).f4.f0)) ∧ w'.cell? ⟨(ad202.add ((x5_1).toNat * 11)).block, (ad202.add ((x5_1).toNat * 11)).off + 6, none⟩ = some (.int .i64 ((rd_T30 l0 x5_1).f4.f1)) ∧ w'.cell? ⟨(ad202.add ((x5_1).toNat * 11)).block, (ad202.add ((x5_1).toNat * 11)).off + 7, none⟩ = some (.int .i64 ((rd_T30 l0 x5_1).f4.f2)) ∧ w'.cell? ⟨(ad202.add ((x5_1).toNat * 11)).block, (ad202.add ((x5_1).toNat * 11)).off + 8, none⟩ = some (.int .i64 ((rd_T30 l0 x5_1).f4.f3)) ∧ w'.cell? ⟨(ad202.add ((x5_1).toNat * 11)).block, (ad202.add ((x5_1).toNat * 11)).off + 9, none⟩ = some (.int .i64 ((rd_T30 l0 x5_1).f5)) ∧ w'.cell? ⟨(ad202.add ((x5_1).toNat * 11)).block, (ad202.add ((x5_1).toNat * 11)).off + 10, none⟩ = some (.int .i64 ((rd_T30 l0 x5_1).f6)) ∧ w'.cell? (ad203.add ((x5_1).toNat * 11)) = some (.int .i64 ((rd_T30 l1 x5_1).f0)) ∧ w'.cell? ⟨(ad203.add ((x5_1).toNat * 11)).block, (ad203.add ((x5_1).toNat * 11)).off + 1, none⟩ = some (.int .i64 ((rd_T30 l1 x5_1).f1)) ∧ w'.cell? ⟨(ad203.add ((x5_1).toNat * 11)).block, (ad203.add ((x5_1).toNat * 11)).off + 2, none⟩ = some (.slice A209_2 ((rd_T30 l1 x5_1).f2).length c209_2) ∧ w'.cell? ⟨(ad203.add ((x5_1).toNat * 11)).block, (ad203.add ((x5_1).toNat * 11)).off + 3, none⟩ = some (.slice A209_3 ((rd_T30 l1 x5_1).f3.f0).length c209_3) ∧ w'.cell? ⟨(ad203.add ((x5_1).toNat * 11)).block, (ad203.add ((x5_1).toNat * 11)).off + 4, none⟩ = some (.slice A209_4 ((rd_T30 l1 x5_1).f3.f1).length c209_4) ∧ w'.cell? ⟨(ad203.add ((x5_1).toNat * 11)).block, (ad203.add ((x5_1).toNat * 11)).off + 5, none⟩ = some (.int .i64 ((rd_T30 l1 x5_1).f4.f0)) ∧ w'.cell? ⟨(ad203.add ((x5_1).toNat * 11)).block, (ad203.add ((x5_1).toNat * 11)).off + 6, none⟩ = some (.int .i64 ((rd_T30 l1 x5_1).f4.f1)) ∧ w'.cell? ⟨(ad203.add ((x5_1).toNat * 11)).block, (ad203.add ((x5_1).toNat * 11)).off + 7, none⟩ = some (.int .i64 ((rd_T30 l1 x5_1).f4.f2)) ∧ w'.cell? ⟨(ad203.add ((x5_1).toNat * 11)).block, (ad203.add ((x5_1).toNat * 11)).off + 8, none⟩ = some (.int .i64 ((rd_T30 l1 x5_1).f4.f3)) ∧ w'.cell? ⟨(ad203.add ((x5_1).toNat * 11)).block, (ad203.add ((x5_1).toNat * 11)).off + 9, none⟩ = some (.int .i64 ((rd_T30 l1 x5_1).f5)) ∧ w'.cell? ⟨(ad203.add ((x5_1).toNat * 11)).block, (ad203.add ((x5_1).toNat * 11)).off + 10, none⟩ = some (.int .i64 ((rd_T30 l1 x5_1).f6)) ∧ w'.cell? (ad202.add ((x5_1).toNat * 11)) = some (.int .i64 ((rd_T30 l0 x5_1).f0)) ∧ w'.cell? ⟨(ad202.add ((x5_1).toNat * 11)).block, (ad202.add ((x5_1).toNat * 11)).off + 1, none⟩ = some (.int .i64 ((rd_T30 l0 x5_1).f1)) ∧ w'.cell? ⟨(ad202.add ((x5_1).toNat * 11)).block, (ad202.add ((x5_1).toNat * 11)).off + 2, none⟩ = some (.slice A208_2 ((rd_T30 l0 x5_1).f2).length c208_2) ∧ w'.cell? ⟨(ad202.add ((x5_1).toNat * 11)).block, (ad202.add ((x5_1).toNat * 11)).off + 3, none⟩ = some (.slice A208_3 ((rd_T30 l0 x5_1).f3.f0).length c208_3) ∧ w'.cell? ⟨(ad202.add ((x5_1).toNat * 11)).block, (ad202.add ((x5_1).toNat * 11)).off + 4, none⟩ = some (.slice A208_4 ((rd_T30 l0 x5_1).f3.f1).length c208_4) ∧ w'.cell? ⟨(ad202.add ((x5_1).toNat * 11)).block, (ad202.add ((x5_1).toNat * 11)).off + 5, none⟩ = some (.int .i64 ((rd_T30 l0 x5_1).f4.f0)) ∧ w'.cell? ⟨(ad202.add ((x5_1).toNat * 11)).block, (ad202.add ((x5_1).toNat * 11)).off + 6, none⟩ = some (.int .i64 ((rd_T30 l0 x5_1).f4.f1)) ∧ w'.cell? ⟨(ad202.add ((x5_1).toNat * 11)).block, (ad202.add ((x5_1).toNat * 11)).off + 7, none⟩ = some (.int .i64 ((rd_T30 l0 x5_1).f4.f2)) ∧ w'.cell? ⟨(ad202.add ((x5_1).toNat * 11)).block, (ad202.add ((x5_1).toNat * 11)).off + 8, none⟩ = some (.int .i64 ((rd_T30 l0 x5_1).f4.f3)) ∧ w'.cell? ⟨(ad202.add ((x5_1).toNat * 11)).block, (ad202.add ((x5_1).toNat * 11)).off + 9, none⟩ = some (.int .i64 ((rd_T30 l0 x5_1).f5)) ∧ w'.cell? ⟨(ad202.add ((x5_1).toNat * 11)).block, (ad202.add ((x5_1).toNat * 11)).off + 10, none⟩ = some (.int .i64 ((rd_T30 l0 x5_1).f6)) ∧ w'.cell? (ad203.add ((x5_1).toNat * 11)) = some (.int .i64 ((rd_T30 l1 x5_1).f0)) ∧ w'.cell? ⟨(ad203.add ((x5_1).toNat * 11)).block, (ad203.add ((x5_1).toNat * 11)).off + 1, none⟩ = some (.int .i64 ((rd_T30 l1 x5_1).f1)) ∧ w'.cell? ⟨(ad203.add ((x5_1).toNat * 11)).block, (ad203.add ((x5_1).toNat * 11)).off + 2, none⟩ = some (.slice A209_2 ((rd_T30 l1 x5_1).f2).length c209_2) ∧ w'.cell? ⟨(ad203.add ((x5_1).toNat * 11)).block, (ad203.add ((x5_1).toNat * 11)).off + 3, none⟩ = some (.slice A209_3 ((rd_T30 l1 x5_1).f3.f0).length c209_3) ∧ w'.cell? ⟨(ad203.add ((x5_1).toNat * 11)).block, (ad203.add ((x5_1).toNat * 11)).off + 4, none⟩ = some (.slice A209_4 ((rd_T30 l1 x5_1).f3.f1).length c209_4) ∧ w'.cell? ⟨(ad203.add ((x5_1).toNat * 11)).block, (ad203.add ((x5_1).toNat * 11)).off + 5, none⟩ = some (.int .i64 ((rd_T30 l1 x5_1).f4.f0)) ∧ w'.cell? ⟨(ad203.add ((x5_1).toNat * 11)).block, (ad203.add ((x5_1).toNat * 11)).off + 6, none⟩ = some (.int .i64 ((rd_T30 l1 x5_1).f4.f1)) ∧ w'.cell? ⟨(ad203.add ((x5_1).toNat * 11)).block, (ad203.add ((x5_1).toNat * 11)).off + 7, none⟩ = some (.int .i64 ((rd_T30 l1 x5_1).f4.f2)) ∧ w'.cell? ⟨(ad203.add ((x5_1).toNat * 11)).block, (ad203.add ((x5_1).toNat * 11)).off + 8, none⟩ = some (.int .i64 ((rd_T30 l1 x5_1).f4.f3)) ∧ w'.cell? ⟨(ad203.add ((x5_1).toNat * 11)).block, (ad203.add ((x5_1).toNat * 11)).off + 9, none⟩ = some (.int .i64 ((rd_T30 l1 x5_1).f5)) ∧ w'.cell? ⟨(ad203.add ((x5_1).toNat * 11)).block, (ad203.add ((x5_1).toNat * 11)).off + 10, none⟩ = some (.int .i64 ((rd_T30 l1 x5_1).f6))) (ds := []) L14_13 (by kernel_rfl) rfl rfl ⟨((HB.out.cell (World.block_lt_of_cell? w _ hw208_0)).trans hw208_0), ((HB.out.cell (World.block_lt_of_cell? w _ hw208_1)).trans hw208_1), ((HB.out.cell (World.block_lt_of_cell? w _ hw208_2)).trans hw208_2), ((HB.out.cell (World.block_lt_of_cell? w _ hw208_3)).trans hw208_3), ((HB.out.cell (World.block_lt_of_cell? w _ hw208_4)).trans hw208_4), ((HB.out.cell (World.block_lt_of_cell? w _ hw208_5)).trans hw208_5), ((HB.out.cell (World.block_lt_of_cell? w _ hw208_6)).trans hw208_6), ((HB.out.cell (World.block_lt_of_cell? w _ hw208_7)).trans hw208_7), ((HB.out.cell (World.block_lt_of_cell? w _ hw208_8)).trans hw208_8), ((HB.out.cell (World.block_lt_of_cell? w _ hw208_9)).trans hw208_9), ((HB.out.cell (World.block_lt_of_cell? w _ hw208_10)).trans hw208_10), ((HB.out.cell (World.block_lt_of_cell? w _ hw209_0)).trans hw209_0), ((HB.out.cell (World.block_lt_of_cell? w _ hw209_1)).trans hw209_1), ((HB.out.cell (World.block_lt_of_cell? w _ hw209_2)).trans hw209_2), ((HB.out.cell (World.block_lt_of_cell? w _ hw209_3)).trans hw209_3), ((HB.out.cell (World.block_lt_of_cell? w _ hw209_4)).trans hw209_4), ((HB.out.cell (World.block_lt_of_cell? w _ hw209_5)).trans hw209_5), ((HB.out.cell (World.block_lt_of_cell? w _ hw209_6)).trans hw209_6), ((HB.out.cell (World.block_lt_of_cell? w _ hw209_7)).trans hw209_7), ((HB.out.cell (World.block_lt_of_cell? w _ hw209_8)).trans hw209_8), ((HB.out.cell (World.block_lt_of_cell? w _ hw209_9)).trans hw209_9), ((HB.out.cell (World.block_lt_of_cell? w _ hw209_10)).trans hw209_10), ((HB.out.cell (World.block_lt_of_cell? w _ hw210_0)).trans hw210_0), ((HB.out.cell (World.block_lt_of_cell? w _ hw210_1)).trans hw210_1), ((HB.out.cell (World.block_lt_of_cell? w _ hw210_2)).trans hw210_2), ((HB.out.cell (World.block_lt_of_cell? w _ hw210_3)).trans hw210_3), ((HB.out.cell (World.block_lt_of_cell? w _ hw210_4)).trans hw210_4), ((HB.out.cell (World.block_lt_of_cell? w _ hw210_5)).trans hw210_5), ((HB.out.cell (World.block_lt_of_cell? w _ hw210_6)).trans hw210_6), ((HB.out.cell (World.block_lt_of_cell? w _ hw210_7)).trans hw210_7), ((HB.out.cell (World.block_lt_of_cell? w _ hw210_8)).trans hw210_8), ((HB.out.cell (World.block_lt_of_cell? w _ hw210_9)).trans hw210_9), ((HB.out.cell (World.block_lt_of_cell? w _ hw210_10)).trans hw210_10), ((HB.out.cell (World.block_lt_of_cell? w _ hw211_0)).trans hw211_0), ((HB.out.cell (World.block_lt_of_cell? w _ hw211_1)).trans hw211_1), ((HB.out.cell (World.block_lt_of_cell? w _ hw211_2)).trans hw211_2), ((HB.out.cell (World.block_lt_of_cell? w _ hw211_3)).trans hw211_3), ((HB.out.cell (World.block_lt_of_cell? w _ hw211_4)).trans hw211_4), ((HB.out.cell (World.block_lt_of_cell? w _ hw211_5)).trans hw211_5), ((HB.out.cell (World.block_lt_of_cell? w _ hw211_6)).trans hw211_6), ((HB.out.cell (World.block_lt_of_cell? w _ hw211_7)).trans hw211_7), ((HB.out.cell (World.block_lt_of_cell? w _ hw211_8)).trans hw211_8), ((HB.out.cell (World.block_lt_of_cell? w _ hw211_9)).trans hw211_9), ((HB.out.cell (World.block_lt_of_cell? w _ hw211_10)).trans hw211_10), ((HB.out.cell (World.block_lt_of_cell? w _ hw212_0)).trans hw212_0), ((HB.out.cell (World.block_lt_of_cell? w _ hw212_1)).trans hw212_1), ((HB.out.cell (World.block_lt_of_cell? w _ hw212_2)).trans hw212_2), ((HB.out.cell (World.block_lt_of_cell? w _ hw212_3)).trans hw212_3), ((HB.out.cell (World.block_lt_of_cell? w _ hw212_4)).trans hw212_4), ((HB.out.cell (World.block_lt_of_cell? w _ hw212_5)).trans hw212_5), ((HB.out.cell (World.block_lt_of_cell? w _ hw212_6)).trans hw212_6), ((HB.out.cell (World.block_lt_of_cell? w _ hw212_7)).trans hw212_7), ((HB.out.cell (World.block_lt_of_cell? w _ hw212_8)).trans hw212_8), ((HB.out.cell (World.block_lt_of_cell? w _ hw212_9)).trans hw212_9), ((HB.out.cell (World.block_lt_of_cell? w _ hw212_10)).trans hw212_10), ((HB.out.cell (World.block_lt_of_cell? w _ hw213_0)).trans hw213_0), ((HB.out.cell (World.block_lt_of_cell? w _ hw213_1)).trans hw213_1), ((HB.out.cell (World.block_lt_of_cell? w _ hw213_2)).trans hw213_2), ((HB.out.cell (World.block_lt_of_cell? w _ hw213_3)).trans hw213_3), ((HB.out.cell (World.block_lt_of_cell? w _ hw213_4)).trans hw213_4), ((HB.out.cell (World.block_lt_of_cell? w _ hw213_5)).trans hw213_5), ((HB.out.cell (World.block_lt_of_cell? w _ hw213_6)).trans hw213_6), ((HB.out.cell (World.block_lt_of_cell? w _ hw213_7)).trans hw213_7), ((HB.out.cell (World.block_lt_of_cell? w _ hw213_8)).trans hw213_8), ((HB.out.cell (World.block_lt_of_cell? w _ hw213_9)).trans hw213_9), ((HB.out.cell (World.block_lt_of_cell? w _ hw213_10)).trans hw213_10), ((HB.out.cell (World.block_lt_of_cell? w _ hw214_0)).trans hw214_0), ((HB.out.cell (World.block_lt_of_cell? w _ hw214_1)).trans hw214_1), ((HB.out.cell (World.block_lt_of_cell? w _ hw214_2)).trans hw214_2), ((HB.out.cell (World.block_lt_of_cell? w _ hw214_3)).trans hw214_3), ((HB.out.cell (World.block_lt_of_cell? w _ hw214_4)).trans hw214_4), ((HB.out.cell (World.block_lt_of_cell? w _ hw214_5)).trans hw214_5), ((HB.out.cell (World.block_lt_of_cell? w _ hw214_6)).trans hw214_6), ((HB.out.cell (World.block_lt_of_cell? w _ hw214_7)).trans hw214_7), ((HB.out.cell (World.block_lt_of_cell? w _ hw214_8)).trans hw214_8), ((HB.out.cell (World.block_lt_of_cell? w _ hw214_9)).trans hw214_9), ((HB.out.cell (World.block_lt_of_cell? w _ hw214_10)).trans hw214_10), ((HB.out.cell (World.block_lt_of_cell? w _ hw215_0)).trans hw215_0), ((HB.out.cell (World.block_lt_of_cell? w _ hw215_1)).trans hw215_1), ((HB.out.cell (World.block_lt_of_cell? w _ hw215_2)).trans hw215_2), ((HB.out.cell (World.block_lt_of_cell? w _ hw215_3)).trans hw215_3), ((HB.out.cell (World.block_lt_of_cell? w _ hw215_4)).trans hw215_4), ((HB.out.cell (World.block_lt_of_cell? w _ hw215_5)).trans hw215_5), ((HB.out.cell (World.block_lt_of_cell? w _ hw215_6)).trans hw215_6), ((HB.out.cell (World.block_lt_of_cell? w _ hw215_7)).trans hw215_7), ((HB.out.cell (World.block_lt_of_cell? w _ hw215_8)).trans hw215_8), ((HB.out.cell (World.block_lt_of_cell? w _ hw215_9)).trans hw215_9), ((HB.out.cell (World.block_lt_of_cell? w _ hw215_10)).trans hw215_10)⟩ (fun hHeld => ?_); refine with_tabW fullerref23_Same.tab8 fullerref23_Same.bits8 (fun HT_ HW_ => ?_)
              generalize w13.drew = w22 at HB HR208_2 HR208_3 HR208_4 HR209_2 HR209_3 HR209_4 HR210_2 HR210_3 HR210_4 HR211_2 HR211_3 HR211_4 HR212_2 HR212_3 HR212_4 HR213_2 HR213_3 HR213_4 HR214_2 HR214_3 HR214_4 HR215_2 HR215_3 HR215_4 hx208_0 hx208_1 hx208_10 hx208_2 hx208_3 hx208_4 hx208_5 hx208_6 hx208_7 hx208_8 hx208_9 hx209_0 hx209_1 hx209_10 hx209_2 hx209_3 hx209_4 hx209_5 hx209_6 hx209_7 hx209_8 hx209_9 hx210_0 hx210_1 hx210_10 hx210_2 hx210_3 hx210_4 hx210_5 hx210_6 hx210_7 hx210_8 hx210_9 hx211_0 hx211_1 hx211_10 hx211_2 hx211_3 hx211_4 hx211_5 hx211_6 hx211_7 hx211_8 hx211_9 hx212_0 hx212_1 hx212_10 hx212_2 hx212_3 hx212_4 hx212_5 hx212_6 hx212_7 hx212_8 hx212_9 hx213_0 hx213_1 hx213_10 hx213_2 hx213_3 hx213_4 hx213_5 hx213_6 hx213_7 hx213_8 hx213_9 hx214_0 hx214_1 hx214_10 hx214_2 hx214_3 hx214_4 hx214_5 hx214_6 hx214_7 hx214_8 hx214_9 hx215_0 hx215_1 hx215_10 hx215_2 hx215_3 hx215_4 hx215_5 hx215_6 hx215_7 hx215_8 hx215_9 hHeld ⊢
              refine pu_ 0 (some 41) L14_14 HT_ ?_
              refine pu_ 1 (some 42) L14_15 HT_ ?_
              refine pu_ 2 (some 43) L14_16 HT_ ?_
              refine pu_ 3 (some 44) L14_17 HT_ ?_
              refine pu_ 4 (some 45) L14_18 HT_ ?_
              refine pu_ 5 (some 46) L14_19 HT_ ?_
              refine pu_ 6 (some 47) L14_20 HT_ ?_
              refine pu_ 7 (some 48) L14_21 HT_ ?_
              refine pu_ 8 (some 49) L14_22 HT_ ?_
              refine pu_ 9 (some 50) L14_23 HT_ ?_
              refine pu_ 10 (some 51) L14_24 HT_ ?_
              refine pu_ 12 (some 53) L14_25 HT_ ?_
              refine pu_ 13 (some 54) L14_26 HT_ ?_
              refine pu_ 14 (some 55) L14_27 HT_ ?_
              refine pu_ 15 (some 56) L14_28 HT_ ?_
              refine ta_ 11 (some 52) L14_29 HT_ HW_ hHeld ?_ (hy := by rintro w' ⟨s0, s1, s2, s3, s4, s5, s6, s7, s8, s9, s10, s11, s12, s13, s14, s15, s16, s17, s18, s19, s20, s21, s22, s23, s24, s25, s26, s27, s28, s29, s30, s31, s32, s33, s34, s35, s36, s37, s38, s39, s40, s41, s42, s43, s44, s45, s46, s47, s48, s49, s50, s51, s52, s53, s54, s55, s56, s57, s58, s59, s60, s61, s62, s63, s64, s65, s66, s67, s68, s69, s70, s71, s72, s73, s74, s75, s76, s77, s78, s79, s80, s81, s82, s83, s84, s85, s86, s87⟩; go_simp; with_reducible rfl)
              refine ta_ 16 (some 57) L14_30 HT_ HW_ hHeld ?_ (hy := by rintro w' ⟨s0, s1, s2, s3, s4, s5, s6, s7, s8, s9, s10, s11, s12, s13, s14, s15, s16, s17, s18, s19, s20, s21, s22, s23, s24, s25, s26, s27, s28, s29, s30, s31, s32, s33, s34, s35, s36, s37, s38, s39, s40, s41, s42, s43, s44, s45, s46, s47, s48, s49, s50, s51, s52, s53, s54, s55, s56, s57, s58, s59, s60, s61, s62, s63, s64, s65, s66, s67, s68, s69, s70, s71, s72, s73, s74, s75, s76, s77, s78, s79, s80, s81, s82, s83, s84, s85, s86, s87⟩; go_simp; with_reducible rfl)
              refine pu_ 17 (some 58) L14_31 HT_ ?_
              refine pu_ 18 (some 59) L14_32 HT_ ?_
              refine pu_ 19 (some 60) L14_33 HT_ ?_
              refine pu_ 20 (some 61) L14_34 HT_ ?_
              refine pu_ 21 (some 62) L14_35 HT_ ?_
              refine pu_ 22 (some 63) L14_36 HT_ ?_
              refine pu_ 23 (some 64) L14_37 HT_ ?_
              refine pu_ 25 (some 66) L14_38 HT_ ?_
              refine pu_ 26 (some 67) L14_39 HT_ ?_
              refine pu_ 27 (some 68) L14_40 HT_ ?_
              refine pu_ 28 (some 69) L14_41 HT_ ?_
              refine ta_ 24 (some 65) L14_42 HT_ HW_ hHeld ?_ (hy := by rintro w' ⟨s0, s1, s2, s3, s4, s5, s6, s7, s8, s9, s10, s11, s12, s13, s14, s15, s16, s17, s18, s19, s20, s21, s22, s23, s24, s25, s26, s27, s28, s29, s30, s31, s32, s33, s34, s35, s36, s37, s38, s39, s40, s41, s42, s43, s44, s45, s46, s47, s48, s49, s50, s51, s52, s53, s54, s55, s56, s57, s58, s59, s60, s61, s62, s63, s64, s65, s66, s67, s68, s69, s70, s71, s72, s73, s74, s75, s76, s77, s78, s79, s80, s81, s82, s83, s84, s85, s86, s87⟩; go_simp; with_reducible rfl)
              refine ta_ 29 (some 70) L14_43 HT_ HW_ hHeld ?_ (hy := by rintro w' ⟨s0, s1, s2, s3, s4, s5, s6, s7, s8, s9, s10, s11, s12, s13, s14, s15, s16, s17, s18, s19, s20, s21, s22, s23, s24, s25, s26, s27, s28, s29, s30, s31, s32, s33, s34, s35, s36, s37, s38, s39, s40, s41, s42, s43, s44, s45, s46, s47, s48, s49, s50, s51, s52, s53, s54, s55, s56, s57, s58, s59, s60, s61, s62, s63, s64, s65, s66, s67, s68, s69, s70, s71, s72, s73, s74, s75, s76, s77, s78, s79, s80, s81, s82, s83, s84, s85, s86, s87⟩; go_simp; with_reducible rfl)
              refine pu_ 30 (some 71) L14_44 HT_ ?_
              refine pu_ 31 (some 72) L14_45 HT_ ?_
              refine pu_ 32 (some 73) L14_46 HT_ ?_
              refine pu_ 33 (some 74) L14_47 HT_ ?_
              refine pu_ 34 (some 75) L14_48 HT_ ?_
              refine pu_ 35 (some 76) L14_49 HT_ ?_
              refine pu_ 36 (some 77) L14_50 HT_ ?_
              refine pu_ 38 (some 79) L14_51 HT_ ?_
              refine pu_ 39 (some 80) L14_52 HT_ ?_
              refine pu_ 40 (some 81) L14_53 HT_ ?_
              refine pu_ 41 (some 82) L14_54 HT_ ?_
              refine ta_ 37 (some 78) L14_55 HT_ HW_ hHeld ?_ (hy := by rintro w' ⟨s0, s1, s2, s3, s4, s5, s6, s7, s8, s9, s10, s11, s12, s13, s14, s15, s16, s17, s18, s19, s20, s21, s22, s23, s24, s25, s26, s27, s28, s29, s30, s31, s32, s33, s34, s35, s36, s37, s38, s39, s40, s41, s42, s43, s44, s45, s46, s47, s48, s49, s50, s51, s52, s53, s54, s55, s56, s57, s58, s59, s60, s61, s62, s63, s64, s65, s66, s67, s68, s69, s70, s71, s72, s73, s74, s75, s76, s77, s78, s79, s80, s81, s82, s83, s84, s85, s86, s87⟩; go_simp; with_reducible rfl)
              refine ta_ 42 (some 83) L14_56 HT_ HW_ hHeld ?_ (hy := by rintro w' ⟨s0, s1, s2, s3, s4, s5, s6, s7, s8, s9, s10, s11, s12, s13, s14, s15, s16, s17, s18, s19, s20, s21, s22, s23, s24, s25, s26, s27, s28, s29, s30, s31, s32, s33, s34, s35, s36, s37, s38, s39, s40, s41, s42, s43, s44, s45, s46, s47, s48, s49, s50, s51, s52, s53, s54, s55, s56, s57, s58, s59, s60, s61, s62, s63, s64, s65, s66, s67, s68, s69, s70, s71, s72, s73, s74, s75, s76, s77, s78, s79, s80, s81, s82, s83, s84, s85, s86, s87⟩; go_simp; with_reducible rfl)
              refine pu_ 43 (some 84) L14_57 HT_ ?_
              refine pu_ 44 (some 85) L14_58 HT_ ?_
              refine pu_ 45 (some 86) L14_59 HT_ ?_
              refine pu_ 46 (some 87) L14_65 HT_ ?_
              refine pu_ 47 (some 88) L14_66 HT_ ?_
              refine pu_ 48 (some 89) L14_67 HT_ ?_
              refine pu_ 49 (some 90) L14_68 HT_ ?_
              refine pu_ 51 (some 92) L14_69 HT_ ?_
              refine pu_ 52 (some 93) L14_70 HT_ ?_
              refine pu_ 53 (some 94) L14_71 HT_ ?_
              refine pu_ 54 (some 95) L14_72 HT_ ?_
              refine ta_ 50 (some 91) L14_73 HT_ HW_ hHeld ?_ (hy := by rintro w' ⟨s0, s1, s2, s3, s4, s5, s6, s7, s8, s9, s10, s11, s12, s13, s14, s15, s16, s17, s18, s19, s20, s21, s22, s23, s24, s25, s26, s27, s28, s29, s30, s31, s32, s33, s34, s35, s36, s37, s38, s39, s40, s41, s42, s43, s44, s45, s46, s47, s48, s49, s50, s51, s52, s53, s54, s55, s56, s57, s58, s59, s60, s61, s62, s63, s64, s65, s66, s67, s68, s69, s70, s71, s72, s73, s74, s75, s76, s77, s78, s79, s80, s81, s82, s83, s84, s85, s86, s87⟩; go_simp; with_reducible rfl)
              refine ta_ 55 (some 96) L14_74 HT_ HW_ hHeld ?_ (hy := by rintro w' ⟨s0, s1, s2, s3, s4, s5, s6, s7, s8, s9, s10, s11, s12, s13, s14, s15, s16, s17, s18, s19, s20, s21, s22, s23, s24, s25, s26, s27, s28, s29, s30, s31, s32, s33, s34, s35, s36, s37, s38, s39, s40, s41, s42, s43, s44, s45, s46, s47, s48, s49, s50, s51, s52, s53, s54, s55, s56, s57, s58, s59, s60, s61, s62, s63, s64, s65, s66, s67, s68, s69, s70, s71, s72, s73, s74, s75, s76, s77, s78, s79, s80, s81, s82, s83, s84, s85, s86, s87⟩; go_simp; with_reducible rfl)
              refine pu_ 56 (some 97) L14_60 HT_ ?_
              refine pu_ 57 (some 98) L14_61 HT_ ?_
              refine pu_ 58 (some 99) L14_62 HT_ ?_
              refine skips_ (fuel := 1) (m := 12) HT_.out (fun _ _ _ _ _ h => h) [(59, 100), (60, 101), (61, 102), (62, 103), (63, 104), (64, 105), (65, 106), (66, 107), (67, 108), (68, 109), (69, 110)] L14_63 rfl (by kernel_rfl) (by kernel_rfl) (a' := ?_) ?_ ?_
              rotate_left
              ·simp only [putU, Act.put, sA_, sB_, sC_]
               rfl
              refine pu_ 70 (some 111) L14_64 HT_ ?_
              refine done_ (done_of HT_.out (by kernel_rfl)) ?_
              try go_wp2
              go_meet
              case rel => exact ⟨_, (true), (by first | rfl | (simp; done) | (simp [*]; done)), H', ⟨by have := HK1.out; first | omega | exact Nat.le_refl _⟩, ⟨bq0_ HB.out⟩⟩
           ·rw [if_neg c17] at H
            have c17b0 : (((rd_T30 l0 x5_1).f1) == ((rd_T30 l1 x5_1).f1)) = false := beq_eq_false_iff_ne.mpr c17
            have c17b1 : (((rd_T30 l0 x5_1).f1) != ((rd_T30 l1 x5_1).f1)) = true := bne_iff_ne.mpr c17
            have H' := Aside0.mk H
            clear H
            try go_wp2
            replace HB := Aside0.mk (below_drew1 HB.out)
            have p208 : 0 ≤ (x5_1 : Int) := od_
            have q208 : x5_1 < (l0.length : Int) := od_
            obtain ⟨ad208, A208_2, c208_2, A208_3, c208_3, A208_4, c208_4, e208, hx208_0, hx208_1, hx208_2, hx208_3, hx208_4, hx208_5, hx208_6, hx208_7, hx208_8, hx208_9, hx208_10, hl208_2, hi208_2, hl208_3, hi208_3, hl208_4, hi208_4⟩ := at_T30 HR0.out x5_1 p208 q208
            have hw208_10 := hx208_10
            have hw208_9 := hx208_9
            have hw208_8 := hx208_8
            have hw208_7 := hx208_7
            have hw208_6 := hx208_6
            have hw208_5 := hx208_5
            have hw208_4 := hx208_4
            have hw208_3 := hx208_3
            have hw208_2 := hx208_2
            have hw208_1 := hx208_1
            have hw208_0 := hx208_0
            obtain rfl : ad202 = ad208 := (by injection e208)
            replace hx208_0 := hb_ HB hx208_0
            replace hx208_1 := hb_ HB hx208_1
            replace hx208_2 := hb_ HB hx208_2
            replace hx208_3 := hb_ HB hx208_3
            replace hx208_4 := hb_ HB hx208_4
            replace hx208_5 := hb_ HB hx208_5
            replace hx208_6 := hb_ HB hx208_6
            replace hx208_7 := hb_ HB hx208_7
            replace hx208_8 := hb_ HB hx208_8
            replace hx208_9 := hb_ HB hx208_9
            replace hx208_10 := hb_ HB hx208_10
            have HR208_2 := Aside0.mk hi208_2
            have HC208_2 := Aside0.mk hl208_2
            clear hi208_2 hl208_2
            have HR208_3 := Aside0.mk hi208_3
            have HC208_3 := Aside0.mk hl208_3
            clear hi208_3 hl208_3
            have HR208_4 := Aside0.mk hi208_4
            have HC208_4 := Aside0.mk hl208_4
            clear hi208_4 hl208_4
            replace p208 := eq_true p208
            replace q208 := eq_true q208
            have p209 : 0 ≤ (x5_1 : Int) := od_
            have q209 : x5_1 < (l1.length : Int) := od_
            obtain ⟨ad209, A209_2, c209_2, A209_3, c209_3, A209_4, c209_4, e209, hx209_0, hx209_1, hx209_2, hx209_3, hx209_4, hx209_5, hx209_6, hx209_7, hx209_8, hx209_9, hx209_10, hl209_2, hi209_2, hl209_3, hi209_3, hl209_4, hi209_4⟩ := at_T30 HR1.out x5_1 p209 q209
            have hw209_10 := hx209_10
            have hw209_9 := hx209_9
            have hw209_8 := hx209_8
            have hw209_7 := hx209_7
            have hw209_6 := hx209_6
            have hw209_5 := hx209_5
            have hw209_4 := hx209_4
            have hw209_3 := hx209_3
            have hw209_2 := hx209_2
            have hw209_1 := hx209_1
            have hw209_0 := hx209_0
            obtain rfl : ad203 = ad209 := (by injection e209)
            replace hx209_0 := hb_ HB hx209_0
            replace hx209_1 := hb_ HB hx209_1
            replace hx209_2 := hb_ HB hx209_2
            replace hx209_3 := hb_ HB hx209_3
            replace hx209_4 := hb_ HB hx209_4
            replace hx209_5 := hb_ HB hx209_5
            replace hx209_6 := hb_ HB hx209_6
            replace hx209_7 := hb_ HB hx209_7
            replace hx209_8 := hb_ HB hx209_8
            replace hx209_9 := hb_ HB hx209_9
            replace hx209_10 := hb_ HB hx209_10
            have HR209_2 := Aside0.mk hi209_2
            have HC209_2 := Aside0.mk hl209_2
            clear hi209_2 hl209_2
            have HR209_3 := Aside0.mk hi209_3
            have HC209_3 := Aside0.mk hl209_3
            clear hi209_3 hl209_3
            have HR209_4 := Aside0.mk hi209_4
            have HC209_4 := Aside0.mk hl209_4
            clear hi209_4 hl209_4
            replace p209 := eq_true p209
            replace q209 := eq_true q209
            have p210 : 0 ≤ (x5_1 : Int) := od_
            have q210 : x5_1 < (l0.length : Int) := od_
            obtain ⟨ad210, A210_2, c210_2, A210_3, c210_3, A210_4, c210_4, e210, hx210_0, hx210_1, hx210_2, hx210_3, hx210_4, hx210_5, hx210_6, hx210_7, hx210_8, hx210_9, hx210_10, hl210_2, hi210_2, hl210_3, hi210_3, hl210_4, hi210_4⟩ := at_T30 HR0.out x5_1 p210 q210
            have hw210_10 := hx210_10
            have hw210_9 := hx210_9
            have hw210_8 := hx210_8
            have hw210_7 := hx210_7
            have hw210_6 := hx210_6
            have hw210_5 := hx210_5
            have hw210_4 := hx210_4
            have hw210_3 := hx210_3
            have hw210_2 := hx210_2
            have hw210_1 := hx210_1
            have hw210_0 := hx210_0
            obtain rfl : ad202 = ad210 := (by injection e210)
            replace hx210_0 := hb_ HB hx210_0
            replace hx210_1 := hb_ HB hx210_1
            replace hx210_2 := hb_ HB hx210_2
            replace hx210_3 := hb_ HB hx210_3
            replace hx210_4 := hb_ HB hx210_4
            replace hx210_5 := hb_ HB hx210_5
            replace hx210_6 := hb_ HB hx210_6
            replace hx210_7 := hb_ HB hx210_7
            replace hx210_8 := hb_ HB hx210_8
            replace hx210_9 := hb_ HB hx210_9
            replace hx210_10 := hb_ HB hx210_10
            have HR210_2 := Aside0.mk hi210_2
            have HC210_2 := Aside0.mk hl210_2
            clear hi210_2 hl210_2
            have HR210_3 := Aside0.mk hi210_3
            have HC210_3 := Aside0.mk hl210_3
            clear hi210_3 hl210_3
            have HR210_4 := Aside0.mk hi210_4
            have HC210_4 := Aside0.mk hl210_4
            clear hi210_4 hl210_4
            replace p210 := eq_true p210
            replace q210 := eq_true q210
            have ea_ := Option.some.inj (hx208_2.symm.trans hx210_2)
            injection ea_ with ea_ en_ ec_
            subst ea_
            subst ec_
            clear en_
            have ea_ := Option.some.inj (hx208_3.symm.trans hx210_3)
            injection ea_ with ea_ en_ ec_
            subst ea_
            subst ec_
            clear en_
            have ea_ := Option.some.inj (hx208_4.symm.trans hx210_4)
            injection ea_ with ea_ en_ ec_
            subst ea_
            subst ec_
            clear en_
            have p211 : 0 ≤ (x5_1 : Int) := od_
            have q211 : x5_1 < (l1.length : Int) := od_
            obtain ⟨ad211, A211_2, c211_2, A211_3, c211_3, A211_4, c211_4, e211, hx211_0, hx211_1, hx211_2, hx211_3, hx211_4, hx211_5, hx211_6, hx211_7, hx211_8, hx211_9, hx211_10, hl211_2, hi211_2, hl211_3, hi211_3, hl211_4, hi211_4⟩ := at_T30 HR1.out x5_1 p211 q211
            have hw211_10 := hx211_10
            have hw211_9 := hx211_9
            have hw211_8 := hx211_8
            have hw211_7 := hx211_7
            have hw211_6 := hx211_6
            have hw211_5 := hx211_5
            have hw211_4 := hx211_4
            have hw211_3 := hx211_3
            have hw211_2 := hx211_2
            have hw211_1 := hx211_1
            have hw211_0 := hx211_0
            obtain rfl : ad203 = ad211 := (by injection e211)
            replace hx211_0 := hb_ HB hx211_0
            replace hx211_1 := hb_ HB hx211_1
            replace hx211_2 := hb_ HB hx211_2
            replace hx211_3 := hb_ HB hx211_3
            replace hx211_4 := hb_ HB hx211_4
            replace hx211_5 := hb_ HB hx211_5
            replace hx211_6 := hb_ HB hx211_6
            replace hx211_7 := hb_ HB hx211_7
            replace hx211_8 := hb_ HB hx211_8
            replace hx211_9 := hb_ HB hx211_9
            replace hx211_10 := hb_ HB hx211_10
            have HR211_2 := Aside0.mk hi211_2
            have HC211_2 := Aside0.mk hl211_2
            clear hi211_2 hl211_2
            have HR211_3 := Aside0.mk hi211_3
            have HC211_3 := Aside0.mk hl211_3
            clear hi211_3 hl211_3
            have HR211_4 := Aside0.mk hi211_4
            have HC211_4 := Aside0.mk hl211_4
            clear hi211_4 hl211_4
            replace p211 := eq_true p211
            replace q211 := eq_true q211
            have ea_ := Option.some.inj (hx209_2.symm.trans hx211_2)
            injection ea_ with ea_ en_ ec_
            subst ea_
            subst ec_
            clear en_
            have ea_ := Option.some.inj (hx209_3.symm.trans hx211_3)
            injection ea_ with ea_ en_ ec_
            subst ea_
            subst ec_
            clear en_
            have ea_ := Option.some.inj (hx209_4.symm.trans hx211_4)
            injection ea_ with ea_ en_ ec_
            subst ea_
            subst ec_
            clear en_
            refine start_ (n := 71) (S := fun w' => w'.cell? (ad202.add ((x5_1).toNat * 11)) = some (.int .i64 ((rd_T30 l0 x5_1).f0)) ∧ w'.cell? ⟨(ad202.add ((x5_1).toNat * 11)).block, (ad202.add ((x5_1).toNat * 11)).off + 1, none⟩ = some (.int .i64 ((rd_T30 l0 x5_1).f1)) ∧ w'.cell? ⟨(ad202.add ((x5_1).toNat * 11)).block, (ad202.add ((x5_1).toNat * 11)).off + 2, none⟩ = some (.slice A208_2 ((rd_T30 l0 x5_1).f2).length c208_2) ∧ w'.cell? ⟨(ad202.add ((x5_1).toNat * 11)).block, (ad202.add ((x5_1).toNat * 11)).off + 3, none⟩ = some (.slice A208_3 ((rd_T30 l0 x5_1).f3.f0).length c208_3) ∧ w'.cell? ⟨(ad202.add ((x5_1).toNat * 11)).block, (ad202.add ((x5_1).toNat * 11)).off + 4, none⟩ = some (.slice A208_4 ((rd_T30 l0 x5_1).f3.f1).length c208_4) ∧ w'.cell? ⟨(ad202.add ((x5_1).toNat * 11)).block, (ad202.add ((x5_1).toNat * 11)).off + 5, none⟩ = some (.int .i64 ((rd_T30 l0 x5_1).f4.f0)) ∧ w'.cell? ⟨(ad202.add ((x5_1).toNat * 11)).block, (ad202.add ((x5_1).toNat * 11)).off + 6, none⟩ = some (.int .i64 ((rd_T30 l0 x5_1).f4.f1)) ∧ w'.cell? ⟨(ad202.add ((x5_1).toNat * 11)).block, (ad202.add ((x5_1).toNat * 11)).off + 7, none⟩ = some (.int .i64 ((rd_T30 l0 x5_1).f4.f2)) ∧ w'.cell? ⟨(ad202.add ((x5_1).toNat * 11)).block, (ad202.add ((x5_1).toNat * 11)).off + 8, none⟩ = some (.int .i64 ((rd_T30 l0 x5_1).f4.f3)) ∧ w'.cell? ⟨(ad202.add ((x5_1).toNat * 11)).block, (ad202.add ((x5_1).toNat * 11)).off + 9, none⟩ = some (.int .i64 ((rd_T30 l0 x5_1).f5)) ∧ w'.cell? ⟨(ad202.add ((x5_1).toNat * 11)).block, (ad202.add ((x5_1).toNat * 11)).off + 10, none⟩ = some (.int .i64 ((rd_T30 l0 x5_1).f6)) ∧ w'.cell? (ad203.add ((x5_1).toNat * 11)) = some (.int .i64 ((rd_T30 l1 x5_1).f0)) ∧ w'.cell? ⟨(ad203.add ((x5_1).toNat * 11)).block, (ad203.add ((x5_1).toNat * 11)).off + 1, none⟩ = some (.int .i64 ((rd_T30 l1 x5_1).f1)) ∧ w'.cell? ⟨(ad203.add ((x5_1).toNat * 11)).block, (ad203.add ((x5_1).toNat * 11)).off + 2, none⟩ = some (.slice A209_2 ((rd_T30 l1 x5_1).f2).length c209_2) ∧ w'.cell? ⟨(ad203.add ((x5_1).toNat * 11)).block, (ad203.add ((x5_1).toNat * 11)).off + 3, none⟩ = some (.slice A209_3 ((rd_T30 l1 x5_1).f3.f0).length c209_3) ∧ w'.cell? ⟨(ad203.add ((x5_1).toNat * 11)).block, (ad203.add ((x5_1).toNat * 11)).off + 4, none⟩ = some (.slice A209_4 ((rd_T30 l1 x5_1).f3.f1).length c209_4) ∧ w'.cell? ⟨(ad203.add ((x5_1).toNat * 11)).block, (ad203.add ((x5_1).toNat * 11)).off + 5, none⟩ = some (.int .i64 ((rd_T30 l1 x5_1).f4.f0)) ∧ w'.cell? ⟨(ad203.add ((x5_1).toNat * 11)).block, (ad203.add ((x5_1).toNat * 11)).off + 6, none⟩ = some (.int .i64 ((rd_T30 l1 x5_1).f4.f1)) ∧ w'.cell? ⟨(ad203.add ((x5_1).toNat * 11)).block, (ad203.add ((x5_1).toNat * 11)).off + 7, none⟩ = some (.int .i64 ((rd_T30 l1 x5_1).f4.f2)) ∧ w'.cell? ⟨(ad203.add ((x5_1).toNat * 11)).block, (ad203.add ((x5_1).toNat * 11)).off + 8, none⟩ = some (.int .i64 ((rd_T30 l1 x5_1).f4.f3)) ∧ w'.cell? ⟨(ad203.add ((x5_1).toNat * 11)).block, (ad203.add ((x5_1).toNat * 11)).off + 9, none⟩ = some (.int .i64 ((rd_T30 l1 x5_1).f5)) ∧ w'.cell? ⟨(ad203.add ((x5_1).toNat * 11)).block, (ad203.add ((x5_1).toNat * 11)).off + 10, none⟩ = some (.int .i64 ((rd_T30 l1 x5_1).f6)) ∧ w'.cell? (ad202.add ((x5_1).toNat * 11)) = some (.int .i64 ((rd_T30 l0 x5_1).f0)) ∧ w'.cell? ⟨(ad202.add ((x5_1).toNat * 11)).block, (ad202.add ((x5_1).toNat * 11)).off + 1, none⟩ = some (.int .i64 ((rd_T30 l0 x5_1).f1)) ∧ w'.cell? ⟨(ad202.add ((x5_1).toNat * 11)).block, (ad202.add ((x5_1).toNat * 11)).off + 2, none⟩ = some (.slice A208_2 ((rd_T30 l0 x5_1).f2).length c208_2) ∧ w'.cell? ⟨(ad202.add ((x5_1).toNat * 11)).block, (ad202.add ((x5_1).toNat * 11)).off + 3, none⟩ = some (.slice A208_3 ((rd_T30 l0 x5_1).f3.f0).length c208_3) ∧ w'.cell? ⟨(ad202.add ((x5_1).toNat * 11)).block, (ad202.add ((x5_1).toNat * 11)).off + 4, none⟩ = some (.slice A208_4 ((rd_T30 l0 x5_1).f3.f1).length c208_4) ∧ w'.cell? ⟨(ad202.add ((x5_1).toNat * 11)).block, (ad202.add ((x5_1).toNat * 11)).off + 5, none⟩ = some (.int .i64 ((rd_T30 l0 x5_1).f4.f0)) ∧ w'.cell? ⟨(ad202.add ((x5_1).toNat * 11)).block, (ad202.add ((x5_1).toNat * 11)).off + 6, none⟩ = some (.int .i64 ((rd_T30 l0 x5_1).f4.f1)) ∧ w'.cell? ⟨(ad202.add ((x5_1).toNat * 11)).block, (ad202.add ((x5_1).toNat * 11)).off + 7, none⟩ = some (.int .i64 ((rd_T30 l0 x5_1).f4.f2)) ∧ w'.cell? ⟨(ad202.add ((x5_1).toNat * 11)).block, (ad202.add ((x5_1).toNat * 11)).off + 8, none⟩ = some (.int .i64 ((rd_T30 l0 x5_1).f4.f3)) ∧ w'.cell? ⟨(ad202.add ((x5_1).toNat * 11)).block, (ad202.add ((x5_1).toNat * 11)).off + 9, none⟩ = some (.int .i64 ((rd_T30 l0 x5_1).f5)) ∧ w'.cell? ⟨(ad202.add ((x5_1).toNat * 11)).block, (ad202.add ((x5_1).toNat * 11)).off + 10, none⟩ = some (.int .i64 ((rd_T30 l0 x5_1).f6)) ∧ w'.cell? (ad203.add ((x5_1).toNat * 11)) = some (.int .i64 ((rd_T30 l1 x5_1).f0)) ∧ w'.cell? ⟨(ad203.add ((x5_1).toNat * 11)).block, (ad203.add ((x5_1).toNat * 11)).off + 1, none⟩ = some (.int .i64 ((rd_T30 l1 x5_1).f1)) ∧ w'.cell? ⟨(ad203.add ((x5_1).toNat * 11)).block, (ad203.add ((x5_1).toNat * 11)).off + 2, none⟩ = some (.slice A209_2 ((rd_T30 l1 x5_1).f2).length c209_2) ∧ w'.cell? ⟨(ad203.add ((x5_1).toNat * 11)).block, (ad203.add ((x5_1).toNat * 11)).off + 3, none⟩ = some (.slice A209_3 ((rd_T30 l1 x5_1).f3.f0).length c209_3) ∧ w'.cell? ⟨(ad203.add ((x5_1).toNat * 11)).block, (ad203.add ((x5_1).toNat * 11)).off + 4, none⟩ = some (.slice A209_4 ((rd_T30 l1 x5_1).f3.f1).length c209_4) ∧ w'.cell? ⟨(ad203.add ((x5_1).toNat * 11)).block, (ad203.add ((x5_1).toNat * 11)).off + 5, none⟩ = some (.int .i64 ((rd_T30 l1 x5_1).f4.f0)) ∧ w'.cell? ⟨(ad203.add ((x5_1).toNat * 11)).block, (ad203.add ((x5_1).toNat * 11)).off + 6, none⟩ = some (.int .i64 ((rd_T30 l1 x5_1).f4.f1)) ∧ w'.cell? ⟨(ad203.add ((x5_1).toNat * 11)).block, (ad203.add ((x5_1).toNat * 11)).off + 7, none⟩ = some (.int .i64 ((rd_T30 l1 x5_1).f4.f2)) ∧ w'.cell? ⟨(ad203.add ((x5_1).toNat * 11)).block, (ad203.add ((x5_1).toNat * 11)).off + 8, none⟩ = some (.int .i64 ((rd_T30 l1 x5_1).f4.f3)) ∧ w'.cell? ⟨(ad203.add ((x5_1).toNat * 11)).block, (ad203.add ((x5_1).toNat * 11)).off + 9, none⟩ = some (.int .i64 ((rd_T30 l1 x5_1).f5)) ∧ w'.cell? ⟨(ad203.add ((x5_1).toNat * 11)).block, (ad203.add ((x5_1).toNat * 11)).off + 10, none⟩ = some (.int .i64 ((rd_T30 l1 x5_1).f6))) (ds := []) L14_13 (by kernel_rfl) rfl rfl ⟨((HB.out.cell (World.block_lt_of_cell? w _ hw208_0)).trans hw208_0), ((HB.out.cell (World.block_lt_of_cell? w _ hw208_1)).trans hw208_1), ((HB.out.cell (World.block_lt_of_cell? w _ hw208_2)).trans hw208_2), ((HB.out.cell (World.block_lt_of_cell? w _ hw208_3)).trans hw208_3), ((HB.out.cell (World.block_lt_of_cell? w _ hw208_4)).trans hw208_4), ((HB.out.cell (World.block_lt_of_cell? w _ hw208_5)).trans hw208_5), ((HB.out.cell (World.block_lt_of_cell? w _ hw208_6)).trans hw208_6), ((HB.out.cell (World.block_lt_of_cell? w _ hw208_7)).trans hw208_7), ((HB.out.cell (World.block_lt_of_cell? w _ hw208_8)).trans hw208_8), ((HB.out.cell (World.block_lt_of_cell? w _ hw208_9)).trans hw208_9), ((HB.out.cell (World.block_lt_of_cell? w _ hw208_10)).trans hw208_10), ((HB.out.cell (World.block_lt_of_cell? w _ hw209_0)).trans hw209_0), ((HB.out.cell (World.block_lt_of_cell? w _ hw209_1)).trans hw209_1), ((HB.out.cell (World.block_lt_of_cell? w _ hw209_2)).trans hw209_2), ((HB.out.cell (World.block_lt_of_cell? w _ hw209_3)).trans hw209_3), ((HB.out.cell (World.block_lt_of_cell? w _ hw209_4)).trans hw209_4), ((HB.out.cell (World.block_lt_of_cell? w _ hw209_5)).trans hw209_5), ((HB.out.cell (World.block_lt_of_cell? w _ hw209_6)).trans hw209_6), ((HB.out.cell (World.block_lt_of_cell? w _ hw209_7)).trans hw209_7), ((HB.out.cell (World.block_lt_of_cell? w _ hw209_8)).trans hw209_8), ((HB.out.cell (World.block_lt_of_cell? w _ hw209_9)).trans hw209_9), ((HB.out.cell (World.block_lt_of_cell? w _ hw209_10)).trans hw209_10), ((HB.out.cell (World.block_lt_of_cell? w _ hw210_0)).trans hw210_0), ((HB.out.cell (World.block_lt_of_cell? w _ hw210_1)).trans hw210_1), ((HB.out.cell (World.block_lt_of_cell? w _ hw210_2)).trans hw210_2), ((HB.out.cell (World.block_lt_of_cell? w _ hw210_3)).trans hw210_3), ((HB.out.cell (World.block_lt_of_cell? w _ hw210_4)).trans hw210_4), ((HB.out.cell (World.block_lt_of_cell? w _ hw210_5)).trans hw210_5), ((HB.out.cell (World.block_lt_of_cell? w _ hw210_6)).trans hw210_6), ((HB.out.cell (World.block_lt_of_cell? w _ hw210_7)).trans hw210_7), ((HB.out.cell (World.block_lt_of_cell? w _ hw210_8)).trans hw210_8), ((HB.out.cell (World.block_lt_of_cell? w _ hw210_9)).trans hw210_9), ((HB.out.cell (World.block_lt_of_cell? w _ hw210_10)).trans hw210_10), ((HB.out.cell (World.block_lt_of_cell? w _ hw211_0)).trans hw211_0), ((HB.out.cell (World.block_lt_of_cell? w _ hw211_1)).trans hw211_1), ((HB.out.cell (World.block_lt_of_cell? w _ hw211_2)).trans hw211_2), ((HB.out.cell (World.block_lt_of_cell? w _ hw211_3)).trans hw211_3), ((HB.out.cell (World.block_lt_of_cell? w _ hw211_4)).trans hw211_4), ((HB.out.cell (World.block_lt_of_cell? w _ hw211_5)).trans hw211_5), ((HB.out.cell (World.block_lt_of_cell? w _ hw211_6)).trans hw211_6), ((HB.out.cell (World.block_lt_of_cell? w _ hw211_7)).trans hw211_7), ((HB.out.cell (World.block_lt_of_cell? w _ hw211_8)).trans hw211_8), ((HB.out.cell (World.block_lt_of_cell? w _ hw211_9)).trans hw211_9), ((HB.out.cell (World.block_lt_of_cell? w _ hw211_10)).trans hw211_10)⟩ (fun hHeld => ?_); refine with_tabW fullerref23_Same.tab8 fullerref23_Same.bits8 (fun HT_ HW_ => ?_)
            generalize w13.drew = w23 at HB HR208_2 HR208_3 HR208_4 HR209_2 HR209_3 HR209_4 HR210_2 HR210_3 HR210_4 HR211_2 HR211_3 HR211_4 hx208_0 hx208_1 hx208_10 hx208_2 hx208_3 hx208_4 hx208_5 hx208_6 hx208_7 hx208_8 hx208_9 hx209_0 hx209_1 hx209_10 hx209_2 hx209_3 hx209_4 hx209_5 hx209_6 hx209_7 hx209_8 hx209_9 hx210_0 hx210_1 hx210_10 hx210_2 hx210_3 hx210_4 hx210_5 hx210_6 hx210_7 hx210_8 hx210_9 hx211_0 hx211_1 hx211_10 hx211_2 hx211_3 hx211_4 hx211_5 hx211_6 hx211_7 hx211_8 hx211_9 hHeld ⊢
            refine pu_ 0 (some 41) L14_14 HT_ ?_
            refine pu_ 1 (some 42) L14_15 HT_ ?_
            refine pu_ 2 (some 43) L14_16 HT_ ?_
            refine pu_ 3 (some 44) L14_17 HT_ ?_
            refine pu_ 4 (some 45) L14_18 HT_ ?_
            refine pu_ 5 (some 46) L14_19 HT_ ?_
            refine pu_ 6 (some 47) L14_20 HT_ ?_
            refine pu_ 7 (some 48) L14_21 HT_ ?_
            refine pu_ 8 (some 49) L14_22 HT_ ?_
            refine pu_ 9 (some 50) L14_23 HT_ ?_
            refine pu_ 10 (some 51) L14_24 HT_ ?_
            refine pu_ 12 (some 53) L14_25 HT_ ?_
            refine pu_ 13 (some 54) L14_26 HT_ ?_
            refine pu_ 14 (some 55) L14_27 HT_ ?_
            refine pu_ 15 (some 56) L14_28 HT_ ?_
            refine ta_ 11 (some 52) L14_29 HT_ HW_ hHeld ?_ (hy := by rintro w' ⟨s0, s1, s2, s3, s4, s5, s6, s7, s8, s9, s10, s11, s12, s13, s14, s15, s16, s17, s18, s19, s20, s21, s22, s23, s24, s25, s26, s27, s28, s29, s30, s31, s32, s33, s34, s35, s36, s37, s38, s39, s40, s41, s42, s43⟩; go_simp; with_reducible rfl)
            refine ta_ 16 (some 57) L14_30 HT_ HW_ hHeld ?_ (hy := by rintro w' ⟨s0, s1, s2, s3, s4, s5, s6, s7, s8, s9, s10, s11, s12, s13, s14, s15, s16, s17, s18, s19, s20, s21, s22, s23, s24, s25, s26, s27, s28, s29, s30, s31, s32, s33, s34, s35, s36, s37, s38, s39, s40, s41, s42, s43⟩; go_simp; with_reducible rfl)
            refine pu_ 17 (some 58) L14_31 HT_ ?_
            refine pu_ 18 (some 59) L14_32 HT_ ?_
            refine pu_ 19 (some 60) L14_33 HT_ ?_
            refine pu_ 20 (some 61) L14_34 HT_ ?_
            refine pu_ 21 (some 62) L14_35 HT_ ?_
            refine pu_ 22 (some 63) L14_36 HT_ ?_
            refine pu_ 23 (some 64) L14_37 HT_ ?_
            refine pu_ 25 (some 66) L14_38 HT_ ?_
            refine pu_ 26 (some 67) L14_39 HT_ ?_
            refine pu_ 27 (some 68) L14_40 HT_ ?_
            refine pu_ 28 (some 69) L14_41 HT_ ?_
            refine ta_ 24 (some 65) L14_42 HT_ HW_ hHeld ?_ (hy := by rintro w' ⟨s0, s1, s2, s3, s4, s5, s6, s7, s8, s9, s10, s11, s12, s13, s14, s15, s16, s17, s18, s19, s20, s21, s22, s23, s24, s25, s26, s27, s28, s29, s30, s31, s32, s33, s34, s35, s36, s37, s38, s39, s40, s41, s42, s43⟩; go_simp; with_reducible rfl)
            refine ta_ 29 (some 70) L14_43 HT_ HW_ hHeld ?_ (hy := by rintro w' ⟨s0, s1, s2, s3, s4, s5, s6, s7, s8, s9, s10, s11, s12, s13, s14, s15, s16, s17, s18, s19, s20, s21, s22, s23, s24, s25, s26, s27, s28, s29, s30, s31, s32, s33, s34, s35, s36, s37, s38, s39, s40, s41, s42, s43⟩; go_simp; with_reducible rfl)
            refine pu_ 30 (some 71) L14_44 HT_ ?_
            refine pu_ 31 (some 72) L14_45 HT_ ?_
            refine pu_ 32 (some 73) L14_46 HT_ ?_
            refine skips_ (fuel := 27) (m := 38) HT_.out (fun _ _ _ _ _ h => h) [(33, 74), (34, 75), (35, 76), (36, 77), (37, 78), (38, 79), (39, 80), (40, 81), (41, 82), (42, 83), (43, 84)] L14_57 rfl (by kernel_rfl) (by kernel_rfl) (a' := ?_) ?_ ?_
            rotate_left
            ·simp only [putU, Act.put, sA_, sB_, sC_]
             rfl
            refine pu_ 44 (some 85) L14_58 HT_ ?_
            refine pu_ 45 (some 86) L14_59 HT_ ?_
            refine skips_ (fuel := 14) (m := 25) HT_.out (fun _ _ _ _ _ h => h) [(46, 87), (47, 88), (48, 89), (49, 90), (50, 91), (51, 92), (52, 93), (53, 94), (54, 95), (55, 96), (56, 97)] L14_60 rfl (by kernel_rfl) (by kernel_rfl) (a' := ?_) ?_ ?_
            rotate_left
            ·simp only [putU, Act.put, sA_, sB_, sC_]
             rfl
            refine pu_ 57 (some 98) L14_61 HT_ ?_
            refine pu_ 58 (some 99) L14_62 HT_ ?_
            refine skips_ (fuel := 1) (m := 12) HT_.out (fun _ _ _ _ _ h => h) [(59, 100), (60, 101), (61, 102), (62, 103), (63, 104), (64, 105), (65, 106), (66, 107), (67, 108), (68, 109), (69, 110)] L14_63 rfl (by kernel_rfl) (by kernel_rfl) (a' := ?_) ?_ ?_
            rotate_left
            ·simp only [putU, Act.put, sA_, sB_, sC_]
             rfl
            refine pu_ 70 (some 111) L14_64 HT_ ?_
            refine done_ (done_of HT_.out (by kernel_rfl)) ?_
            try go_wp2
            go_meet
            case rel => exact ⟨_, (true), (by first | rfl | (simp; done) | (simp [*]; done)), H', ⟨by have := HK1.out; first | omega | exact Nat.le_refl _⟩, ⟨bq0_ HB.out⟩⟩
          ·rw [if_neg c16] at H
           have c16b0 : (((rd_T30 l0 x5_1).f0) == ((rd_T30 l1 x5_1).f0)) = false := beq_eq_false_iff_ne.mpr c16
           have c16b1 : (((rd_T30 l0 x5_1).f0) != ((rd_T30 l1 x5_1).f0)) = true := bne_iff_ne.mpr c16
           (first | rw [c16b0] | (simp only [i64_w, i32_w]; rw [c16b0]) | rw [c16b1] | skip)
           have H' := Aside0.mk H
           clear H
           try go_wp2
           replace HB := Aside0.mk (below_drew1 HB.out)
           have p208 : 0 ≤ (x5_1 : Int) := od_
           have q208 : x5_1 < (l0.length : Int) := od_
           obtain ⟨ad208, A208_2, c208_2, A208_3, c208_3, A208_4, c208_4, e208, hx208_0, hx208_1, hx208_2, hx208_3, hx208_4, hx208_5, hx208_6, hx208_7, hx208_8, hx208_9, hx208_10, hl208_2, hi208_2, hl208_3, hi208_3, hl208_4, hi208_4⟩ := at_T30 HR0.out x5_1 p208 q208
           have hw208_10 := hx208_10
           have hw208_9 := hx208_9
           have hw208_8 := hx208_8
           have hw208_7 := hx208_7
           have hw208_6 := hx208_6
           have hw208_5 := hx208_5
           have hw208_4 := hx208_4
           have hw208_3 := hx208_3
           have hw208_2 := hx208_2
           have hw208_1 := hx208_1
           have hw208_0 := hx208_0
           obtain rfl : ad202 = ad208 := (by injection e208)
           replace hx208_0 := hb_ HB hx208_0
           replace hx208_1 := hb_ HB hx208_1
           replace hx208_2 := hb_ HB hx208_2
           replace hx208_3 := hb_ HB hx208_3
           replace hx208_4 := hb_ HB hx208_4
           replace hx208_5 := hb_ HB hx208_5
           replace hx208_6 := hb_ HB hx208_6
           replace hx208_7 := hb_ HB hx208_7
           replace hx208_8 := hb_ HB hx208_8
           replace hx208_9 := hb_ HB hx208_9
           replace hx208_10 := hb_ HB hx208_10
           have HR208_2 := Aside0.mk hi208_2
           have HC208_2 := Aside0.mk hl208_2
           clear hi208_2 hl208_2
           have HR208_3 := Aside0.mk hi208_3
           have HC208_3 := Aside0.mk hl208_3
           clear hi208_3 hl208_3
           have HR208_4 := Aside0.mk hi208_4
           have HC208_4 := Aside0.mk hl208_4
           clear hi208_4 hl208_4
           replace p208 := eq_true p208
           replace q208 := eq_true q208
           have p209 : 0 ≤ (x5_1 : Int) := od_
           have q209 : x5_1 < (l1.length : Int) := od_
           obtain ⟨ad209, A209_2, c209_2, A209_3, c209_3, A209_4, c209_4, e209, hx209_0, hx209_1, hx209_2, hx209_3, hx209_4, hx209_5, hx209_6, hx209_7, hx209_8, hx209_9, hx209_10, hl209_2, hi209_2, hl209_3, hi209_3, hl209_4, hi209_4⟩ := at_T30 HR1.out x5_1 p209 q209
           have hw209_10 := hx209_10
           have hw209_9 := hx209_9
           have hw209_8 := hx209_8
           have hw209_7 := hx209_7
           have hw209_6 := hx209_6
           have hw209_5 := hx209_5
           have hw209_4 := hx209_4
           have hw209_3 := hx209_3
           have hw209_2 := hx209_2
           have hw209_1 := hx209_1
           have hw209_0 := hx209_0
           obtain rfl : ad203 = ad209 := (by injection e209)
           replace hx209_0 := hb_ HB hx209_0
           replace hx209_1 := hb_ HB hx209_1
           replace hx209_2 := hb_ HB hx209_2
           replace hx209_3 := hb_ HB hx209_3
           replace hx209_4 := hb_ HB hx209_4
           replace hx209_5 := hb_ HB hx209_5
           replace hx209_6 := hb_ HB hx209_6
           replace hx209_7 := hb_ HB hx209_7
           replace hx209_8 := hb_ HB hx209_8
           replace hx209_9 := hb_ HB hx209_9
           replace hx209_10 := hb_ HB hx209_10
           have HR209_2 := Aside0.mk hi209_2
           have HC209_2 := Aside0.mk hl209_2
           clear hi209_2 hl209_2
           have HR209_3 := Aside0.mk hi209_3
           have HC209_3 := Aside0.mk hl209_3
           clear hi209_3 hl209_3
           have HR209_4 := Aside0.mk hi209_4
           have HC209_4 := Aside0.mk hl209_4
           clear hi209_4 hl209_4
           replace p209 := eq_true p209
           replace q209 := eq_true q209
           refine start_ (n := 71) (S := fun w' => w'.cell? (ad202.add ((x5_1).toNat * 11)) = some (.int .i64 ((rd_T30 l0 x5_1).f0)) ∧ w'.cell? ⟨(ad202.add ((x5_1).toNat * 11)).block, (ad202.add ((x5_1).toNat * 11)).off + 1, none⟩ = some (.int .i64 ((rd_T30 l0 x5_1).f1)) ∧ w'.cell? ⟨(ad202.add ((x5_1).toNat * 11)).block, (ad202.add ((x5_1).toNat * 11)).off + 2, none⟩ = some (.slice A208_2 ((rd_T30 l0 x5_1).f2).length c208_2) ∧ w'.cell? ⟨(ad202.add ((x5_1).toNat * 11)).block, (ad202.add ((x5_1).toNat * 11)).off + 3, none⟩ = some (.slice A208_3 ((rd_T30 l0 x5_1).f3.f0).length c208_3) ∧ w'.cell? ⟨(ad202.add ((x5_1).toNat * 11)).block, (ad202.add ((x5_1).toNat * 11)).off + 4, none⟩ = some (.slice A208_4 ((rd_T30 l0 x5_1).f3.f1).length c208_4) ∧ w'.cell? ⟨(ad202.add ((x5_1).toNat * 11)).block, (ad202.add ((x5_1).toNat * 11)).off + 5, none⟩ = some (.int .i64 ((rd_T30 l0 x5_1).f4.f0)) ∧ w'.cell? ⟨(ad202.add ((x5_1).toNat * 11)).block, (ad202.add ((x5_1).toNat * 11)).off + 6, none⟩ = some (.int .i64 ((rd_T30 l0 x5_1).f4.f1)) ∧ w'.cell? ⟨(ad202.add ((x5_1).toNat * 11)).block, (ad202.add ((x5_1).toNat * 11)).off + 7, none⟩ = some (.int .i64 ((rd_T30 l0 x5_1).f4.f2)) ∧ w'.cell? ⟨(ad202.add ((x5_1).toNat * 11)).block, (ad202.add ((x5_1).toNat * 11)).off + 8, none⟩ = some (.int .i64 ((rd_T30 l0 x5_1).f4.f3)) ∧ w'.cell? ⟨(ad202.add ((x5_1).toNat * 11)).block, (ad202.add ((x5_1).toNat * 11)).off + 9, none⟩ = some (.int .i64 ((rd_T30 l0 x5_1).f5)) ∧ w'.cell? ⟨(ad202.add ((x5_1).toNat * 11)).block, (ad202.add ((x5_1).toNat * 11)).off + 10, none⟩ = some (.int .i64 ((rd_T30 l0 x5_1).f6)) ∧ w'.cell? (ad203.add ((x5_1).toNat * 11)) = some (.int .i64 ((rd_T30 l1 x5_1).f0)) ∧ w'.cell? ⟨(ad203.add ((x5_1).toNat * 11)).block, (ad203.add ((x5_1).toNat * 11)).off + 1, none⟩ = some (.int .i64 ((rd_T30 l1 x5_1).f1)) ∧ w'.cell? ⟨(ad203.add ((x5_1).toNat * 11)).block, (ad203.add ((x5_1).toNat * 11)).off + 2, none⟩ = some (.slice A209_2 ((rd_T30 l1 x5_1).f2).length c209_2) ∧ w'.cell? ⟨(ad203.add ((x5_1).toNat * 11)).block, (ad203.add ((x5_1).toNat * 11)).off + 3, none⟩ = some (.slice A209_3 ((rd_T30 l1 x5_1).f3.f0).length c209_3) ∧ w'.cell? ⟨(ad203.add ((x5_1).toNat * 11)).block, (ad203.add ((x5_1).toNat * 11)).off + 4, none⟩ = some (.slice A209_4 ((rd_T30 l1 x5_1).f3.f1).length c209_4) ∧ w'.cell? ⟨(ad203.add ((x5_1).toNat * 11)).block, (ad203.add ((x5_1).toNat * 11)).off + 5, none⟩ = some (.int .i64 ((rd_T30 l1 x5_1).f4.f0)) ∧ w'.cell? ⟨(ad203.add ((x5_1).toNat * 11)).block, (ad203.add ((x5_1).toNat * 11)).off + 6, none⟩ = some (.int .i64 ((rd_T30 l1 x5_1).f4.f1)) ∧ w'.cell? ⟨(ad203.add ((x5_1).toNat * 11)).block, (ad203.add ((x5_1).toNat * 11)).off + 7, none⟩ = some (.int .i64 ((rd_T30 l1 x5_1).f4.f2)) ∧ w'.cell? ⟨(ad203.add ((x5_1).toNat * 11)).block, (ad203.add ((x5_1).toNat * 11)).off + 8, none⟩ = some (.int .i64 ((rd_T30 l1 x5_1).f4.f3)) ∧ w'.cell? ⟨(ad203.add ((x5_1).toNat * 11)).block, (ad203.add ((x5_1).toNat * 11)).off + 9, none⟩ = some (.int .i64 ((rd_T30 l1 x5_1).f5)) ∧ w'.cell? ⟨(ad203.add ((x5_1).toNat * 11)).block, (ad203.add ((x5_1).toNat * 11)).off + 10, none⟩ = some (.int .i64 ((rd_T30 l1 x5_1).f6))) (ds := []) L14_13 (by kernel_rfl) rfl rfl ⟨((HB.out.cell (World.block_lt_of_cell? w _ hw208_0)).trans hw208_0), ((HB.out.cell (World.block_lt_of_cell? w _ hw208_1)).trans hw208_1), ((HB.out.cell (World.block_lt_of_cell? w _ hw208_2)).trans hw208_2), ((HB.out.cell (World.block_lt_of_cell? w _ hw208_3)).trans hw208_3), ((HB.out.cell (World.block_lt_of_cell? w _ hw208_4)).trans hw208_4), ((HB.out.cell (World.block_lt_of_cell? w _ hw208_5)).trans hw208_5), ((HB.out.cell (World.block_lt_of_cell? w _ hw208_6)).trans hw208_6), ((HB.out.cell (World.block_lt_of_cell? w _ hw208_7)).trans hw208_7), ((HB.out.cell (World.block_lt_of_cell? w _ hw208_8)).trans hw208_8), ((HB.out.cell (World.block_lt_of_cell? w _ hw208_9)).trans hw208_9), ((HB.out.cell (World.block_lt_of_cell? w _ hw208_10)).trans hw208_10), ((HB.out.cell (World.block_lt_of_cell? w _ hw209_0)).trans hw209_0), ((HB.out.cell (World.block_lt_of_cell? w _ hw209_1)).trans hw209_1), ((HB.out.cell (World.block_lt_of_cell? w _ hw209_2)).trans hw209_2), ((HB.out.cell (World.block_lt_of_cell? w _ hw209_3)).trans hw209_3), ((HB.out.cell (World.block_lt_of_cell? w _ hw209_4)).trans hw209_4), ((HB.out.cell (World.block_lt_of_cell? w _ hw209_5)).trans hw209_5), ((HB.out.cell (World.block_lt_of_cell? w _ hw209_6)).trans hw209_6), ((HB.out.cell (World.block_lt_of_cell? w _ hw209_7)).trans hw209_7), ((HB.out.cell (World.block_lt_of_cell? w _ hw209_8)).trans hw209_8), ((HB.out.cell (World.block_lt_of_cell? w _ hw209_9)).trans hw209_9), ((HB.out.cell (World.block_lt_of_cell? w _ hw209_10)).trans hw209_10)⟩ (fun hHeld => ?_); refine with_tabW fullerref23_Same.tab8 fullerref23_Same.bits8 (fun HT_ HW_ => ?_)
           generalize w13.drew = w24 at HB HR208_2 HR208_3 HR208_4 HR209_2 HR209_3 HR209_4 hx208_0 hx208_1 hx208_10 hx208_2 hx208_3 hx208_4 hx208_5 hx208_6 hx208_7 hx208_8 hx208_9 hx209_0 hx209_1 hx209_10 hx209_2 hx209_3 hx209_4 hx209_5 hx209_6 hx209_7 hx209_8 hx209_9 hHeld ⊢
           refine pu_ 0 (some 41) L14_14 HT_ ?_
           refine pu_ 1 (some 42) L14_15 HT_ ?_
           refine pu_ 2 (some 43) L14_16 HT_ ?_
           refine pu_ 3 (some 44) L14_17 HT_ ?_
           refine pu_ 4 (some 45) L14_18 HT_ ?_
           refine pu_ 5 (some 46) L14_19 HT_ ?_
           refine pu_ 6 (some 47) L14_20 HT_ ?_
           refine pu_ 7 (some 48) L14_21 HT_ ?_
           refine pu_ 8 (some 49) L14_22 HT_ ?_
           refine pu_ 9 (some 50) L14_23 HT_ ?_
           refine pu_ 10 (some 51) L14_24 HT_ ?_
           refine pu_ 12 (some 53) L14_25 HT_ ?_
           refine pu_ 13 (some 54) L14_26 HT_ ?_
           refine pu_ 14 (some 55) L14_27 HT_ ?_
           refine pu_ 15 (some 56) L14_28 HT_ ?_
           refine ta_ 11 (some 52) L14_29 HT_ HW_ hHeld ?_ (hy := by rintro w' ⟨s0, s1, s2, s3, s4, s5, s6, s7, s8, s9, s10, s11, s12, s13, s14, s15, s16, s17, s18, s19, s20, s21⟩; go_simp; with_reducible rfl)
           refine ta_ 16 (some 57) L14_30 HT_ HW_ hHeld ?_ (hy := by rintro w' ⟨s0, s1, s2, s3, s4, s5, s6, s7, s8, s9, s10, s11, s12, s13, s14, s15, s16, s17, s18, s19, s20, s21⟩; go_simp; with_reducible rfl)
           refine pu_ 17 (some 58) L14_31 HT_ ?_
           refine pu_ 18 (some 59) L14_32 HT_ ?_
           refine pu_ 19 (some 60) L14_33 HT_ ?_
           refine skips_ (fuel := 40) (m := 51) HT_.out (fun _ _ _ _ _ h => h) [(20, 61), (21, 62), (22, 63), (23, 64), (24, 65), (25, 66), (26, 67), (27, 68), (28, 69), (29, 70), (30, 71)] L14_44 rfl (by kernel_rfl) (by kernel_rfl) (a' := ?_) ?_ ?_
           rotate_left
           ·simp only [putU, Act.put, sA_, sB_, sC_]
            rfl
           refine pu_ 31 (some 72) L14_45 HT_ ?_
           refine pu_ 32 (some 73) L14_46 HT_ ?_
           refine skips_ (fuel := 27) (m := 38) HT_.out (fun _ _ _ _ _ h => h) [(33, 74), (34, 75), (35, 76), (36, 77), (37, 78), (38, 79), (39, 80), (40, 81), (41, 82), (42, 83), (43, 84)] L14_57 rfl (by kernel_rfl) (by kernel_rfl) (a' := ?_) ?_ ?_
           rotate_left
           ·simp only [putU, Act.put, sA_, sB_, sC_]
            rfl
           refine pu_ 44 (some 85) L14_58 HT_ ?_
           refine pu_ 45 (some 86) L14_59 HT_ ?_
           refine skips_ (fuel := 14) (m := 25) HT_.out (fun _ _ _ _ _ h => h) [(46, 87), (47, 88), (48, 89), (49, 90), (50, 91), (51, 92), (52, 93), (53, 94), (54, 95), (55, 96), (56, 97)] L14_60 rfl (by kernel_rfl) (by kernel_rfl) (a' := ?_) ?_ ?_
           rotate_left
           ·simp only [putU, Act.put, sA_, sB_, sC_]
            rfl
           refine pu_ 57 (some 98) L14_61 HT_ ?_
           refine pu_ 58 (some 99) L14_62 HT_ ?_
           refine skips_ (fuel := 1) (m := 12) HT_.out (fun _ _ _ _ _ h => h) [(59, 100), (60, 101), (61, 102), (62, 103), (63, 104), (64, 105), (65, 106), (66, 107), (67, 108), (68, 109), (69, 110)] L14_63 rfl (by kernel_rfl) (by kernel_rfl) (a' := ?_) ?_ ?_
           rotate_left
           ·simp only [putU, Act.put, sA_, sB_, sC_]
            rfl
           refine pu_ 70 (some 111) L14_64 HT_ ?_
           refine done_ (done_of HT_.out (by kernel_rfl)) ?_
           try go_wp2
           go_meet
           case rel => exact ⟨_, (true), (by first | rfl | (simp; done) | (simp [*]; done)), H', ⟨by have := HK1.out; first | omega | exact Nat.le_refl _⟩, ⟨bq0_ HB.out⟩⟩
         ·replace c15 := Bool.eq_false_iff.mpr c15
          subst c15
          have H1 : (fullerref23_Same.j1 k1 l0 l1 x5_1 true) = some r := by rw [if_neg (show ¬ (false = true) by decide)] at H; exact H
          clear H
          have H := H1
          clear H1
          have H' := Aside0.mk H
          clear H
          try go_wp2
          replace HB := Aside0.mk (below_drew1 HB.out)
          refine start_ (n := 71) (S := fun w' => True) (ds := []) L14_13 (by kernel_rfl) rfl rfl trivial (fun hHeld => ?_); refine with_tabW fullerref23_Same.tab8 fullerref23_Same.bits8 (fun HT_ HW_ => ?_)
          generalize w13.drew = w25 at HB hHeld ⊢
          refine pu_ 0 (some 41) L14_14 HT_ ?_
          refine pu_ 1 (some 42) L14_15 HT_ ?_
          refine pu_ 2 (some 43) L14_16 HT_ ?_
          refine pu_ 3 (some 44) L14_17 HT_ ?_
          refine pu_ 4 (some 45) L14_18 HT_ ?_
          refine pu_ 5 (some 46) L14_19 HT_ ?_
          refine pu_ 6 (some 47) L14_20 HT_ ?_
          refine skips_ (fuel := 53) (m := 64) HT_.out (fun _ _ _ _ _ h => h) [(7, 48), (8, 49), (9, 50), (10, 51), (11, 52), (12, 53), (13, 54), (14, 55), (15, 56), (16, 57), (17, 58)] L14_31 rfl (by kernel_rfl) (by kernel_rfl) (a' := ?_) ?_ ?_
          rotate_left
          ·simp only [putU, Act.put, sA_, sB_, sC_]
           rfl
          refine pu_ 18 (some 59) L14_32 HT_ ?_
          refine pu_ 19 (some 60) L14_33 HT_ ?_
          refine skips_ (fuel := 40) (m := 51) HT_.out (fun _ _ _ _ _ h => h) [(20, 61), (21, 62), (22, 63), (23, 64), (24, 65), (25, 66), (26, 67), (27, 68), (28, 69), (29, 70), (30, 71)] L14_44 rfl (by kernel_rfl) (by kernel_rfl) (a' := ?_) ?_ ?_
          rotate_left
          ·simp only [putU, Act.put, sA_, sB_, sC_]
           rfl
          refine pu_ 31 (some 72) L14_45 HT_ ?_
          refine pu_ 32 (some 73) L14_46 HT_ ?_
          refine skips_ (fuel := 27) (m := 38) HT_.out (fun _ _ _ _ _ h => h) [(33, 74), (34, 75), (35, 76), (36, 77), (37, 78), (38, 79), (39, 80), (40, 81), (41, 82), (42, 83), (43, 84)] L14_57 rfl (by kernel_rfl) (by kernel_rfl) (a' := ?_) ?_ ?_
          rotate_left
          ·simp only [putU, Act.put, sA_, sB_, sC_]
           rfl
          refine pu_ 44 (some 85) L14_58 HT_ ?_
          refine pu_ 45 (some 86) L14_59 HT_ ?_
          refine skips_ (fuel := 14) (m := 25) HT_.out (fun _ _ _ _ _ h => h) [(46, 87), (47, 88), (48, 89), (49, 90), (50, 91), (51, 92), (52, 93), (53, 94), (54, 95), (55, 96), (56, 97)] L14_60 rfl (by kernel_rfl) (by kernel_rfl) (a' := ?_) ?_ ?_
          rotate_left
          ·simp only [putU, Act.put, sA_, sB_, sC_]
           rfl
          refine pu_ 57 (some 98) L14_61 HT_ ?_
          refine pu_ 58 (some 99) L14_62 HT_ ?_
          refine skips_ (fuel := 1) (m := 12) HT_.out (fun _ _ _ _ _ h => h) [(59, 100), (60, 101), (61, 102), (62, 103), (63, 104), (64, 105), (65, 106), (66, 107), (67, 108), (68, 109), (69, 110)] L14_63 rfl (by kernel_rfl) (by kernel_rfl) (a' := ?_) ?_ ?_
          rotate_left
          ·simp only [putU, Act.put, sA_, sB_, sC_]
           rfl
          refine pu_ 70 (some 111) L14_64 HT_ ?_
          refine done_ (done_of HT_.out (by kernel_rfl)) ?_
          try go_wp2
          go_meet
          case rel => exact ⟨_, (true), (by first | rfl | (simp; done) | (simp [*]; done)), H', ⟨by have := HK1.out; first | omega | exact Nat.le_refl _⟩, ⟨bq0_ HB.out⟩⟩
        ·replace c14 := Bool.eq_false_iff.mpr c14
         subst c14
         have H1 : (fullerref23_Same.j1 k1 l0 l1 x5_1 true) = some r := by rw [if_neg (show ¬ (false = true) by decide)] at H; exact H
         clear H
         have H := H1
         clear H1
         have H' := Aside0.mk H
         clear H
         try go_wp2
         replace HB := Aside0.mk (below_drew1 HB.out)
         refine start_ (n := 71) (S := fun w' => True) (ds := []) L14_13 (by kernel_rfl) rfl rfl trivial (fun hHeld => ?_); refine with_tabW fullerref23_Same.tab8 fullerref23_Same.bits8 (fun HT_ HW_ => ?_)
         generalize w13.drew = w26 at HB hHeld ⊢
         refine pu_ 0 (some 41) L14_14 HT_ ?_
         refine pu_ 1 (some 42) L14_15 HT_ ?_
         refine pu_ 2 (some 43) L14_16 HT_ ?_
         refine skips_ (fuel := 66) (m := 68) HT_.out (fun _ _ _ _ _ h => h) [(3, 44), (4, 45)] L14_18 rfl (by kernel_rfl) (by kernel_rfl) (a' := ?_) ?_ ?_
         rotate_left
         ·simp only [putU, Act.put, sA_, sB_, sC_]
          rfl
         refine pu_ 5 (some 46) L14_19 HT_ ?_
         refine pu_ 6 (some 47) L14_20 HT_ ?_
         refine skips_ (fuel := 53) (m := 64) HT_.out (fun _ _ _ _ _ h => h) [(7, 48), (8, 49), (9, 50), (10, 51), (11, 52), (12, 53), (13, 54), (14, 55), (15, 56), (16, 57), (17, 58)] L14_31 rfl (by kernel_rfl) (by kernel_rfl) (a' := ?_) ?_ ?_
         rotate_left
         ·simp only [putU, Act.put, sA_, sB_, sC_]
          rfl
         refine pu_ 18 (some 59) L14_32 HT_ ?_
         refine pu_ 19 (some 60) L14_33 HT_ ?_
         refine skips_ (fuel := 40) (m := 51) HT_.out (fun _ _ _ _ _ h => h) [(20, 61), (21, 62), (22, 63), (23, 64), (24, 65), (25, 66), (26, 67), (27, 68), (28, 69), (29, 70), (30, 71)] L14_44 rfl (by kernel_rfl) (by kernel_rfl) (a' := ?_) ?_ ?_
         rotate_left
         ·simp only [putU, Act.put, sA_, sB_, sC_]
          rfl
         refine pu_ 31 (some 72) L14_45 HT_ ?_
         refine pu_ 32 (some 73) L14_46 HT_ ?_
         refine skips_ (fuel := 27) (m := 38) HT_.out (fun _ _ _ _ _ h => h) [(33, 74), (34, 75), (35, 76), (36, 77), (37, 78), (38, 79), (39, 80), (40, 81), (41, 82), (42, 83), (43, 84)] L14_57 rfl (by kernel_rfl) (by kernel_rfl) (a' := ?_) ?_ ?_
         rotate_left
         ·simp only [putU, Act.put, sA_, sB_, sC_]
          rfl
         refine pu_ 44 (some 85) L14_58 HT_ ?_
         refine pu_ 45 (some 86) L14_59 HT_ ?_
         refine skips_ (fuel := 14) (m := 25) HT_.out (fun _ _ _ _ _ h => h) [(46, 87), (47, 88), (48, 89), (49, 90), (50, 91), (51, 92), (52, 93), (53, 94), (54, 95), (55, 96), (56, 97)] L14_60 rfl (by kernel_rfl) (by kernel_rfl) (a' := ?_) ?_ ?_
         rotate_left
         ·simp only [putU, Act.put, sA_, sB_, sC_]
          rfl
         refine pu_ 57 (some 98) L14_61 HT_ ?_
         refine pu_ 58 (some 99) L14_62 HT_ ?_
         refine skips_ (fuel := 1) (m := 12) HT_.out (fun _ _ _ _ _ h => h) [(59, 100), (60, 101), (61, 102), (62, 103), (63, 104), (64, 105), (65, 106), (66, 107), (67, 108), (68, 109), (69, 110)] L14_63 rfl (by kernel_rfl) (by kernel_rfl) (a' := ?_) ?_ ?_
         rotate_left
         ·simp only [putU, Act.put, sA_, sB_, sC_]
          rfl
         refine pu_ 70 (some 111) L14_64 HT_ ?_
         refine done_ (done_of HT_.out (by kernel_rfl)) ?_
         try go_wp2
         go_meet
         case rel => exact ⟨_, (true), (by first | rfl | (simp; done) | (simp [*]; done)), H', ⟨by have := HK1.out; first | omega | exact Nat.le_refl _⟩, ⟨bq0_ HB.out⟩⟩
       case rest =>
        clear HC9
        try clear c1
        try clear p2
        try clear c14
        obtain ⟨kq, x111_8, rfl, HA, HJ8, HB⟩ := hcut
        cases kq with
        | zero => exact absurd HA.out (by simp [fullerref23_Same.j1])
        | succ kj8 =>
         have H := HA.out
         clear HA
         simp only [fullerref23_Same.j1] at H
         by_cases c27 : x111_8 = true
         ·subst c27
          have H1 : (some false) = some r := by rw [if_pos rfl] at H; exact H
          clear H
          have H := H1
          clear H1
          obtain rfl := Option.some.inj H
          go_wp2
          go_ret
          exact ⟨by first | rfl | (simp <;> rfl) | (simp [*] <;> rfl), bq0_ HB.out⟩
         ·replace c27 := Bool.eq_false_iff.mpr c27
          subst c27
          have H1 : (fullerref23_Same.l0 kj8 l0 l1 (wrap64 (x5_1 + 1))) = some r := by rw [if_neg (show ¬ (false = true) by decide)] at H; exact H
          clear H
          have H := H1
          clear H1
          have H' := Aside0.mk H
          clear H
          go_wp2
          go_roundg kj8
          case measure => have := HK1.out; have := HJ8.out; omega
          case rel => exact ⟨(wrap64 (x5_1 + 1)), (by first | rfl | (simp; done) | (simp [*]; done)), H', ⟨by have := HK1.out; have := HJ8.out; omega⟩, ⟨bq0_ HB.out⟩⟩
      ·rw [if_neg c6] at H
       exact absurd H (by simp)
     ·rw [if_neg c5] at H
      exact absurd H (by simp)
    ·rw [if_neg c4] at H
     have c4b0 : decide (x5_1 < (l0.length : Int)) = false := decide_eq_false c4
     clear c4
     obtain rfl := Option.some.inj H
     go_wp2
     go_ret
     exact ⟨by first | rfl | (simp <;> rfl) | (simp [*] <;> rfl), bq0_ HB.out⟩
 ·rw [if_neg c3] at H
  have c3b0 : ((l0.length : Int) == (l1.length : Int)) = false := beq_eq_false_iff_ne.mpr c3
  have c3b1 : ((l0.length : Int) != (l1.length : Int)) = true := bne_iff_ne.mpr c3
  have c3b2 : (l0.length == l1.length) = false := by first | simpa using c3 | (simp at c3 ⊢; omega)
  obtain rfl := Option.some.inj H
  go_enter Try.func14, Try.ntmps14
  go_wp2
  go_ret
  exact ⟨by first | rfl | (simp <;> rfl) | (simp [*] <;> rfl), bq0_ HB.out⟩
end Go.Proofs.Ytjcgadfmhfhbgaa.A
