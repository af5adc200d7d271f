/- Lean functions that answer as the Go functions do, and the proofs that they do; no conditions. Written by this session's own driver: a scratch copy of the kit's print with the session's additions (wip/xprint). -/
import Derived.Test.YtjcgadfmhfhbgaaAx0
import Derived.Test.YtjcgadfmhfhbgaaOpens
import Derived.KernelRfl
namespace Go.Proofs.Ytjcgadfmhfhbgaa.A
open Go.RowKit Go.Proofs.YtjcgadfmhfhbgaaW.PrintWords Go.Proofs.Ytjcgadfmhfhbgaa
theorem opens48 : Opens.Opens Try.prog 48 k48 OK48 :=
  Opens.opens_struct Try.underlying48 (by kernel_rfl) (fun x : S48 => (x.f0, x.f1, x.f2)) (fun a => ⟨a.1, a.2.1, a.2.2⟩) (fun _ => rfl) (Opens.opens_cons rfl (by kernel_rfl) (Opens.opens_int Try.underlying3) (Opens.opens_cons rfl (by kernel_rfl) (Opens.opens_slice Try.underlying24 (by kernel_rfl) (by kernel_rfl) (Opens.opens_int Try.underlying3)) (Opens.opens_one rfl (by kernel_rfl) (Opens.opens_slice Try.underlying24 (by kernel_rfl) (by kernel_rfl) (Opens.opens_int Try.underlying3)))))
theorem opens26 : Opens.Opens Try.prog 26 k26 OK26 :=
  Opens.opens_struct Try.underlying26 (by kernel_rfl) (fun x : S26 => (x.f0, x.f1)) (fun a => ⟨a.1, a.2⟩) (fun _ => rfl) (Opens.opens_cons rfl (by kernel_rfl) (Opens.opens_slice Try.underlying24 (by kernel_rfl) (by kernel_rfl) (Opens.opens_int Try.underlying3)) (Opens.opens_one rfl (by kernel_rfl) (Opens.opens_slice Try.underlying24 (by kernel_rfl) (by kernel_rfl) (Opens.opens_int Try.underlying3))))
theorem opens28 : Opens.Opens Try.prog 28 k28 OK28 :=
  Opens.opens_struct Try.underlying28 (by kernel_rfl) (fun x : S28 => (x.f0, x.f1, x.f2, x.f3)) (fun a => ⟨a.1, a.2.1, a.2.2.1, a.2.2.2⟩) (fun _ => rfl) (Opens.opens_cons rfl (by kernel_rfl) (Opens.opens_int Try.underlying3) (Opens.opens_cons rfl (by kernel_rfl) (Opens.opens_int Try.underlying3) (Opens.opens_cons rfl (by kernel_rfl) (Opens.opens_int Try.underlying3) (Opens.opens_one rfl (by kernel_rfl) (Opens.opens_int Try.underlying3)))))
theorem opens30 : Opens.Opens Try.prog 30 k30 OK30 :=
  Opens.opens_struct Try.underlying30 (by kernel_rfl) (fun x : S30 => (x.f0, x.f1, x.f2, x.f3, x.f4, x.f5, x.f6)) (fun a => ⟨a.1, a.2.1, a.2.2.1, a.2.2.2.1, a.2.2.2.2.1, a.2.2.2.2.2.1, a.2.2.2.2.2.2⟩) (fun _ => rfl) (Opens.opens_cons rfl (by kernel_rfl) (Opens.opens_int Try.underlying3) (Opens.opens_cons rfl (by kernel_rfl) (Opens.opens_int Try.underlying3) (Opens.opens_cons rfl (by kernel_rfl) (Opens.opens_slice Try.underlying23 (by kernel_rfl) (by kernel_rfl) opens48) (Opens.opens_cons rfl (by kernel_rfl) opens26 (Opens.opens_cons rfl (by kernel_rfl) opens28 (Opens.opens_cons rfl (by kernel_rfl) (Opens.opens_int Try.underlying3) (Opens.opens_one rfl (by kernel_rfl) (Opens.opens_int Try.underlying3))))))))
end Go.Proofs.Ytjcgadfmhfhbgaa.A
