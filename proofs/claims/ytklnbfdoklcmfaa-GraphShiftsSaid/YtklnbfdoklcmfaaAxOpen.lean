/- Lean functions that answer as the Go functions do, and the proofs that they do; no conditions. Written by this session's own driver: a scratch copy of the kit's print with the session's additions (wip/xprint). -/
import Derived.Test.YtklnbfdoklcmfaaAx0
import Derived.Test.YtklnbfdoklcmfaaOpens
import Derived.KernelRfl
namespace Go.Proofs.Ytklnbfdoklcmfaa.A
open Go.RowKit Go.Proofs.YtklnbfdoklcmfaaW.PrintWords Go.Proofs.Ytklnbfdoklcmfaa
theorem opens35 : Opens.Opens Try.prog 35 k35 OK35 :=
  Opens.opens_struct Try.underlying35 (by kernel_rfl) (fun x : S35 => (x.f0, x.f1, x.f2)) (fun a => ⟨a.1, a.2.1, a.2.2⟩) (fun _ => rfl) (Opens.opens_cons rfl (by kernel_rfl) (Opens.opens_int Try.underlying3) (Opens.opens_cons rfl (by kernel_rfl) (Opens.opens_slice Try.underlying25 (by kernel_rfl) (by kernel_rfl) (Opens.opens_int Try.underlying3)) (Opens.opens_one rfl (by kernel_rfl) (Opens.opens_slice Try.underlying25 (by kernel_rfl) (by kernel_rfl) (Opens.opens_int Try.underlying3)))))
end Go.Proofs.Ytklnbfdoklcmfaa.A
