/- Lean functions that answer as the Go functions do, and the proofs that they do; no conditions. Written by this session's own driver: a scratch copy of the kit's print with the session's additions (wip/xprint). -/
import Derived.Test.YtchmfdaebohplaaAx0
import Derived.Test.YtchmfdaebohplaaOpens
import Derived.KernelRfl
namespace Go.Proofs.Ytchmfdaebohplaa.A
open Go.RowKit Go.Proofs.YtchmfdaebohplaaW.PrintWords Go.Proofs.Ytchmfdaebohplaa
theorem opens36 : Opens.Opens Try.prog 36 k36 OK36 :=
  Opens.opens_struct Try.underlying36 (by kernel_rfl) (fun x : S36 => (x.f0, x.f1, x.f2)) (fun a => ⟨a.1, a.2.1, a.2.2⟩) (fun _ => rfl) (Opens.opens_cons rfl (by kernel_rfl) (Opens.opens_int Try.underlying3) (Opens.opens_cons rfl (by kernel_rfl) (Opens.opens_slice Try.underlying34 (by kernel_rfl) (by kernel_rfl) (Opens.opens_int Try.underlying3)) (Opens.opens_one rfl (by kernel_rfl) (Opens.opens_slice Try.underlying34 (by kernel_rfl) (by kernel_rfl) (Opens.opens_int Try.underlying3)))))
end Go.Proofs.Ytchmfdaebohplaa.A
