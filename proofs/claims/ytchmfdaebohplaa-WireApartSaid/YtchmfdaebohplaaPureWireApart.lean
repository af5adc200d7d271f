/- For all graphs WireApart answers true; no conditions but the sizes that the statement names. -/
import Derived.Test.YtchmfdaebohplaaAx14
import Derived.Test.YtchmfdaebohplaaWireAwake
import Derived.Test.YtchmfdaebohplaaWireR
namespace Go.Proofs.Ytchmfdaebohplaa.Pure
open Go.RowKit Go.Proofs.Ytchmfdaebohplaa.A Go.Proofs.YtchmfdaebohplaaW.PrintWords Go.Proofs.YtchmfdaebohplaaW.PrintLast Go.Proofs.YtchmfdaebohplaaW.PrintMore Go.Proofs.Ytchmfdaebohplaa.Plain
set_option linter.unusedVariables false
set_option linter.unusedSimpArgs false
theorem WireApart : fullerlaw12_WireApart.Pure := by
  intro a b ha hb
  have wa := wideG_in ha.2
  have wb := wideG_in hb.2
  have la : a.length ≤ 9223372036854775806 := by omega
  have lb : b.length ≤ 9223372036854775806 := by omega
  have hd : ∃ x y e f s, fewG a = true → apartFacts (a.length + b.length + 200000) a b x y e f s := by
    by_cases hf : fewG a = true
    · have hf2 := fewG_iff hf
      by_cases hga : gchk a = true
      · by_cases hgb : gchk b = true
        · have GA := gchk_iff.mp hga
          have GB := gchk_iff.mp hgb
          have hp := GA.pos
          have h24 := GA.le
          have hn := node_len (GA.node 0 _ (List.getElem?_eq_getElem hp))
          have e1 : rd_T36 a 0 = a[0] := rdN (i := 0) hp
          have enc1 : encG a = (a.length : Int) :: a[0].f0 :: ((((a[0].f1.length : Int) :: pkAll 1 a[0].f1) ++ ((a[0].f2.length : Int) :: pkAll 8 a[0].f2)) ++ encNs (a.drop 1)) := by
            have e := List.drop_eq_getElem_cons hp
            rw [List.drop_zero] at e
            have e2 : encNs a = encN a[0] ++ encNs (a.drop 1) := by
              conv => lhs; rw [e]
              rfl
            show (a.length : Int) :: encNs a = _
            rw [e2]
            rfl
          refine ⟨encG a, encG b, 0, 0, sameG a b, fun _ => ⟨by rw [wwrite_f a _ (by omega), if_pos hga], by rw [wwrite_f b _ (by omega), if_pos hgb], .inr ⟨rfl, rfl, same10_f a b (by omega) (fun n hn => by have := hf2.2 n hn; omega) _ (by omega), ?_, ?_, hp, ?_, by omega, ?_, ?_, ?_⟩⟩⟩
          · cases hs : sameG a b with
            | true => rw [sameG_iff.mp hs]; simp
            | false =>
              rw [beq_eq_false_iff_ne]
              intro h
              have := encG_inj GA GB wa wb (str_inj (octs_encG GA wa) (octs_encG GB wb) h)
              rw [this, sameG_refl] at hs
              cases hs
          · rw [enc1]; simp
          · rw [enc1]; rfl
          · rw [enc1, e1]; rfl
          · rw [enc1]; show 0 ≤ a[0].f0; omega
          · rw [enc1]; show a[0].f0 ≤ 255; omega
        · refine ⟨encG a, [], 0, 100, false, fun _ => ⟨by rw [wwrite_f a _ (by omega), if_pos hga], by rw [wwrite_f b _ (by omega), if_neg hgb], .inl ⟨.inr ⟨rfl, by decide⟩, .inr ⟨hga, by simpa using hgb⟩⟩⟩⟩
      · by_cases hgb : gchk b = true
        · exact ⟨[], encG b, 100, 0, false, fun _ => ⟨by rw [wwrite_f a _ (by omega), if_neg hga], by rw [wwrite_f b _ (by omega), if_pos hgb], .inl ⟨.inl (by decide), .inl (by simpa using hga)⟩⟩⟩
        · exact ⟨[], [], 100, 100, false, fun _ => ⟨by rw [wwrite_f a _ (by omega), if_neg hga], by rw [wwrite_f b _ (by omega), if_neg hgb], .inl ⟨.inl (by decide), .inl (by simpa using hga)⟩⟩⟩
    · exact ⟨[], [], 0, 0, false, fun h => absurd h hf⟩
  obtain ⟨x, y, e, f, s, hd⟩ := hd
  refine ⟨a.length + b.length + 200000, x, y, e, f, fewG a, fewG b, s, awake_f _ (by omega), few10_f a la _ (by omega), few10_f b lb _ (by omega), ?_⟩
  cases h0 : fewG a with
  | false => exact .inl rfl
  | true =>
    cases h1 : fewG b with
    | false => exact .inr (.inl ⟨rfl, rfl⟩)
    | true => exact .inr (.inr ⟨rfl, rfl, hd h0⟩)
end Go.Proofs.Ytchmfdaebohplaa.Pure
