/- Lean functions that answer as the Go functions do, and the proofs that they do; no conditions. Written by this session's own driver: a scratch copy of the kit's print with the session's additions (wip/xprint). -/
import Derived.Test.YtmolbbebglfhmaaAx0
import Derived.Test.YtmolbbebglfhmaaOpens
import Derived.KernelRfl
namespace Go.Proofs.Ytmolbbebglfhmaa.A
open Go.RowKit Go.Proofs.YtmolbbebglfhmaaW.PrintWords Go.Proofs.Ytmolbbebglfhmaa
theorem opens37 : Opens.Opens Try.prog 37 k37 OK37 :=
  Opens.opens_struct Try.underlying37 (by kernel_rfl) (fun x : S37 => (x.f0, x.f1)) (fun a => ⟨a.1, a.2⟩) (fun _ => rfl) (Opens.opens_cons rfl (by kernel_rfl) (Opens.opens_slice Try.underlying23 (by kernel_rfl) (by kernel_rfl) (Opens.opens_int Try.underlying3)) (Opens.opens_one rfl (by kernel_rfl) (Opens.opens_slice Try.underlying23 (by kernel_rfl) (by kernel_rfl) (Opens.opens_int Try.underlying3))))
theorem opens74 : Opens.Opens Try.prog 74 k74 OK74 :=
  Opens.opens_struct Try.underlying74 (by kernel_rfl) (fun x : S74 => (x.f0, x.f1)) (fun a => ⟨a.1, a.2⟩) (fun _ => rfl) (Opens.opens_cons rfl (by kernel_rfl) (Opens.opens_int Try.underlying3) (Opens.opens_one rfl (by kernel_rfl) opens37))
theorem opens42 : Opens.Opens Try.prog 42 k42 OK42 :=
  Opens.opens_struct Try.underlying42 (by kernel_rfl) (fun x : S42 => (x.f0, x.f1)) (fun a => ⟨a.1, a.2⟩) (fun _ => rfl) (Opens.opens_cons rfl (by kernel_rfl) (Opens.opens_int Try.underlying3) (Opens.opens_one rfl (by kernel_rfl) opens37))
theorem opens25 : Opens.Opens Try.prog 25 k25 OK25 :=
  Opens.opens_struct Try.underlying25 (by kernel_rfl) (fun x : S25 => (x.f0, x.f1, x.f2)) (fun a => ⟨a.1, a.2.1, a.2.2⟩) (fun _ => rfl) (Opens.opens_cons rfl (by kernel_rfl) (Opens.opens_slice Try.underlying22 (by kernel_rfl) (by kernel_rfl) (Opens.opens_slice Try.underlying54 (by kernel_rfl) (by kernel_rfl) opens74)) (Opens.opens_cons rfl (by kernel_rfl) (Opens.opens_int Try.underlying3) (Opens.opens_one rfl (by kernel_rfl) (Opens.opens_slice Try.underlying23 (by kernel_rfl) (by kernel_rfl) (Opens.opens_int Try.underlying3)))))
end Go.Proofs.Ytmolbbebglfhmaa.A
