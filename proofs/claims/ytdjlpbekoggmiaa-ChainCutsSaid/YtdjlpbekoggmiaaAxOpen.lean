/- Lean functions that answer as the Go functions do, and the proofs that they do; no conditions. Written by this session's own driver: a scratch copy of the kit's print with the session's additions (wip/xprint). -/
import Derived.Test.YtdjlpbekoggmiaaAx0
import Derived.Test.YtdjlpbekoggmiaaOpens
import Derived.KernelRfl
namespace Go.Proofs.Ytdjlpbekoggmiaa.A
open Go.RowKit Go.Proofs.YtdjlpbekoggmiaaW.PrintWords Go.Proofs.Ytdjlpbekoggmiaa
theorem opens25 : Opens.Opens Try.prog 25 k25 OK25 :=
  Opens.opens_struct Try.underlying25 (by kernel_rfl) (fun x : S25 => (x.f0, x.f1)) (fun a => ⟨a.1, a.2⟩) (fun _ => rfl) (Opens.opens_cons rfl (by kernel_rfl) (Opens.opens_slice Try.underlying23 (by kernel_rfl) (by kernel_rfl) (Opens.opens_int Try.underlying3)) (Opens.opens_one rfl (by kernel_rfl) (Opens.opens_slice Try.underlying23 (by kernel_rfl) (by kernel_rfl) (Opens.opens_int Try.underlying3))))
theorem opens41 : Opens.Opens Try.prog 41 k41 OK41 :=
  Opens.opens_struct Try.underlying41 (by kernel_rfl) (fun x : S41 => (x.f0, x.f1)) (fun a => ⟨a.1, a.2⟩) (fun _ => rfl) (Opens.opens_cons rfl (by kernel_rfl) (Opens.opens_int Try.underlying3) (Opens.opens_one rfl (by kernel_rfl) opens25))
end Go.Proofs.Ytdjlpbekoggmiaa.A
