/- Lean functions that answer as the Go functions do, and the proofs that they do; no conditions. Written by this session's own driver: a scratch copy of the kit's print with the session's additions (wip/xprint). -/
import Derived.Test.YtoiaegbhnpddlaaAx0
import Derived.Test.YtoiaegbhnpddlaaOpens
import Derived.KernelRfl
namespace Go.Proofs.Ytoiaegbhnpddlaa.A
open Go.RowKit Go.Proofs.YtoiaegbhnpddlaaW.PrintWords Go.Proofs.Ytoiaegbhnpddlaa
theorem opens24 : Opens.Opens Try.prog 24 k24 OK24 :=
  Opens.opens_struct Try.underlying24 (by kernel_rfl) (fun x : S24 => (x.f0, x.f1)) (fun a => ⟨a.1, a.2⟩) (fun _ => rfl) (Opens.opens_cons rfl (by kernel_rfl) (Opens.opens_slice Try.underlying22 (by kernel_rfl) (by kernel_rfl) (Opens.opens_int Try.underlying3)) (Opens.opens_one rfl (by kernel_rfl) (Opens.opens_slice Try.underlying22 (by kernel_rfl) (by kernel_rfl) (Opens.opens_int Try.underlying3))))
end Go.Proofs.Ytoiaegbhnpddlaa.A
