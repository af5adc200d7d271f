/- For all graphs and bytes WireBack answers true; no conditions but the sizes that the statement names. -/
import Derived.Test.YtchmfdaebohplaaAx13
import Derived.Test.YtchmfdaebohplaaWireAwake
import Derived.Test.YtchmfdaebohplaaWireR
namespace Go.Proofs.Ytchmfdaebohplaa.Pure
open Go.RowKit Go.Proofs.Ytchmfdaebohplaa.A Go.Proofs.YtchmfdaebohplaaW.PrintWords Go.Proofs.YtchmfdaebohplaaW.PrintLast Go.Proofs.YtchmfdaebohplaaW.PrintMore Go.Proofs.Ytchmfdaebohplaa.Plain
set_option linter.unusedVariables false
set_option linter.unusedSimpArgs false
theorem WireBack : fullerlaw12_WireBack.Pure := by
  intro l b hl hb
  have ho := octs_in hb.2
  have hw := wideG_in hl.2
  have hm : l.length ≤ 9223372036854775806 := by omega
  refine ⟨l.length + 200000, ?_⟩
  unfold fullerlaw12_WireBack.f
  rw [awake_f _ (by omega), few10_f l hm _ (by omega)]
  simp only [Option.bind_some]
  have out : fullerlaw12_WireBack.j0 (l.length + 200000) l b true true = some true := by
    rw [show l.length + 200000 = (l.length + 199999) + 1 from rfl, fullerlaw12_WireBack.j0, if_pos rfl]
  cases hf : fewG l with
  | false => rw [if_neg (by simp)]; exact out
  | true =>
    rw [if_pos rfl]
    by_cases h1 : (b.length : Int) > 5000
    · rw [decide_eq_true h1]; exact out
    · rw [decide_eq_false h1, show l.length + 200000 = (l.length + 199999) + 1 from rfl, fullerlaw12_WireBack.j0, if_neg (by simp), wwrite_f l _ (by omega), wread_f ho (by omega)]
      simp only [Option.bind_some]
      rw [wwrite_f (rdGraph b).1 _ (by omega)]
      simp only [Option.bind_some]
      have two : (rdGraph b).2 = 0 → gchk (rdGraph b).1 = true ∧ encG (rdGraph b).1 = b := fun h => by
        obtain ⟨a1, _, a3⟩ := rdGraph_inv ho h
        exact ⟨gchk_iff.mpr a1, a3⟩
      have err : ¬ (rdGraph b).2 = 0 → rdGraph b = ([], 120) := rdGraph_err
      by_cases hg : gchk l = true
      · have hG := gchk_iff.mp hg
        have hput := rdGraph_put hG hw []
        rw [List.append_nil, if_pos rfl] at hput
        have hle := encG_le hG
        have hf2 := fewG_iff hf
        rw [if_pos hg]
        simp only
        rw [wread_f (octs_encG hG hw) (by omega), hput]
        simp only [Option.bind_some, if_true]
        rw [same10_f l l (by omega) (fun n hn => by have := hf2.2 n hn; omega) _ (by omega), sameG_refl]
        simp only [Option.bind_some, if_true]
        by_cases h2 : (rdGraph b).2 = 0
        · obtain ⟨b1, b2⟩ := two h2
          simp only [h2, b1, b2, if_true, graph_Check.f, Option.bind_some]
        · rw [if_neg h2, err h2]
          simp
      · rw [if_neg hg]
        simp only
        rw [wread_f (b := []) (fun x hx => by cases hx) (by simp)]
        simp only [Option.bind_some]
        rw [if_neg (by decide)]
        simp only [graph_Check.f, Option.bind_some]
        rw [if_neg hg, if_pos trivial]
        by_cases h2 : (rdGraph b).2 = 0
        · obtain ⟨b1, b2⟩ := two h2
          simp only [h2, b1, b2, if_true]
        · rw [if_neg h2, err h2]
          simp
end Go.Proofs.Ytchmfdaebohplaa.Pure
