/- Lean functions that answer as the Go functions do, and the proofs that they do; no conditions. Written by this session's own driver: a scratch copy of the kit's print with the session's additions (wip/xprint). -/
import Derived.Test.YtfoffgbhfokccaaAx0
import Derived.Test.YtfoffgbhfokccaaOpens
import Derived.KernelRfl
namespace Go.Proofs.Ytfoffgbhfokccaa.A
open Go.RowKit Go.Proofs.YtfoffgbhfokccaaW.PrintWords Go.Proofs.Ytfoffgbhfokccaa
theorem opens26 : Opens.Opens Try.prog 26 k26 OK26 :=
  Opens.opens_struct Try.underlying26 (by kernel_rfl) (fun x : S26 => (x.f0, x.f1)) (fun a => ⟨a.1, a.2⟩) (fun _ => rfl) (Opens.opens_cons rfl (by kernel_rfl) (Opens.opens_slice Try.underlying24 (by kernel_rfl) (by kernel_rfl) (Opens.opens_int Try.underlying3)) (Opens.opens_one rfl (by kernel_rfl) (Opens.opens_slice Try.underlying24 (by kernel_rfl) (by kernel_rfl) (Opens.opens_int Try.underlying3))))
end Go.Proofs.Ytfoffgbhfokccaa.A
