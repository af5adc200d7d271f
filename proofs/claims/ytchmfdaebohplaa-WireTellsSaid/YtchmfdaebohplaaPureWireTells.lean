/- For all graphs and bytes WireTells answers true; no conditions but the sizes that the statement names. -/
import Derived.Test.YtchmfdaebohplaaAx12
import Derived.Test.YtchmfdaebohplaaWireAwake
import Derived.Test.YtchmfdaebohplaaWireR
namespace Go.Proofs.Ytchmfdaebohplaa.Pure
open Go.RowKit Go.Proofs.Ytchmfdaebohplaa.A Go.Proofs.YtchmfdaebohplaaW.PrintWords Go.Proofs.YtchmfdaebohplaaW.PrintLast Go.Proofs.YtchmfdaebohplaaW.PrintMore Go.Proofs.Ytchmfdaebohplaa.Plain
set_option linter.unusedVariables false
set_option linter.unusedSimpArgs false
theorem rdGraph_small {b : List Int} (ho : octs b) : (rdGraph b).1.length ≤ 1000 ∧ ∀ n ∈ (rdGraph b).1, n.f1.length ≤ 1000 ∧ n.f2.length ≤ 1000 := by
  by_cases h : (rdGraph b).2 = 0
  · obtain ⟨h1, _, _⟩ := rdGraph_inv ho h
    have := h1.le
    exact ⟨by omega, fun n hn => by have := ok_small h1 n hn; omega⟩
  · rw [rdGraph_err h]
    exact ⟨by simp, fun n hn => by cases hn⟩
theorem WireTells : fullerlaw12_WireTells.Pure := by
  intro l b hl hb
  have ho := octs_in hb.2
  have hm : l.length ≤ 9223372036854775806 := by omega
  refine ⟨l.length + 200000, ?_⟩
  unfold fullerlaw12_WireTells.f
  rw [awake_f _ (by omega), few10_f l hm _ (by omega)]
  simp only [Option.bind_some]
  have out : fullerlaw12_WireTells.j0 (l.length + 200000) l b true true = some true := by
    rw [show l.length + 200000 = (l.length + 199999) + 1 from rfl, fullerlaw12_WireTells.j0, if_pos rfl]
  cases hf : fewG l with
  | false => rw [if_neg (by simp)]; exact out
  | true =>
    rw [if_pos rfl]
    by_cases h1 : (b.length : Int) > 5000
    · rw [decide_eq_true h1]; exact out
    · rw [decide_eq_false h1, show l.length + 200000 = (l.length + 199999) + 1 from rfl, fullerlaw12_WireTells.j0, if_neg (by simp), wwrite_f l _ (by omega), rwwrite_f l _ (by omega), wread_f ho (by omega), rread_f ho (by omega) _ (by omega)]
      simp only [Option.bind_some, if_true]
      obtain ⟨s1, s2⟩ := rdGraph_small ho
      rw [same10_f _ _ (by omega) s2 _ (by omega), sameG_refl]
      simp
end Go.Proofs.Ytchmfdaebohplaa.Pure
