/- For every command ScriptSizes answers true; no conditions but the sizes that the statement names. -/
import Derived.Test.YtjcgadfmhfhbgaaAx29
import Derived.Test.YtjcgadfmhfhbgaaScrD
namespace Go.Proofs.Ytjcgadfmhfhbgaa.Pure
open Go.RowKit Go.Proofs.Ytjcgadfmhfhbgaa.A Go.Proofs.YtjcgadfmhfhbgaaW.PrintWords Go.Proofs.YtjcgadfmhfhbgaaW.PrintLast Go.Proofs.Ytjcgadfmhfhbgaa.Plain
set_option linter.unusedVariables false
set_option linter.unusedSimpArgs false
theorem ScriptSizes : fullerlaw23_ScriptSizes.Pure := by
  intro a0 a1 g s d o0 o1 o2 o3 bu pa w0 w1 hg hs hd wo0 wo1 wo2 wo3 wbu wpa
  obtain ⟨K, hK⟩ : ∃ K, K = 140737490000000 := ⟨_, rfl⟩
  refine ⟨K + 1 + 1 + 1 + 1, ?_⟩
  unfold fullerlaw23_ScriptSizes.f
  rw [awake_f _ (by omega), few21_f _ 1 140737488351232 (fun x hx => by obtain rfl := List.mem_singleton.1 hx; simp only; omega) (by omega) (by simp) _ (by simp; omega)]
  simp only [Option.bind_some]
  cases hf0 : (([⟨a0, a1, g, ⟨s, d⟩, ⟨o0, o1, o2, o3⟩, bu, pa⟩] : List S30).all fewC && decide (((([⟨a0, a1, g, ⟨s, d⟩, ⟨o0, o1, o2, o3⟩, bu, pa⟩] : List S30)).length : Int) ≤ 1)) with
  | false => rw [if_neg (by decide)]
  | true =>
    obtain ⟨s0, _⟩ := few_all hf0
    have hsm := (s0 _ List.mem_cons_self).2
    have hk : ∀ k, 5 ≤ k → ∃ b, script_Check.f k a0 a1 g s d o0 o1 o2 o3 bu pa = some b ∧ (b = true ↔ OKC ⟨a0, a1, g, ⟨s, d⟩, ⟨o0, o1, o2, o3⟩, bu, pa⟩) := fun k hk => chk_ex ⟨a0, a1, g, ⟨s, d⟩, ⟨o0, o1, o2, o3⟩, bu, pa⟩ hsm k hk
    rw [if_pos rfl]
    rcases write_f [⟨a0, a1, g, ⟨s, d⟩, ⟨o0, o1, o2, o3⟩, bu, pa⟩] (fun x hx => (s0 x hx).2) (by simp) (K + 1 + 1 + 1 + 1) (by omega) with ⟨e0, o0'⟩ | ⟨e0, o0'⟩
    · have hok := o0' _ List.mem_cons_self
      rw [e0]
      simp only [Option.bind_some, if_true]
      have e1 : encCs [⟨a0, a1, g, ⟨s, d⟩, ⟨o0, o1, o2, o3⟩, bu, pa⟩] = encC ⟨a0, a1, g, ⟨s, d⟩, ⟨o0, o1, o2, o3⟩, bu, pa⟩ := by simp [encCs]
      rw [e1]
      have hlen := encC_len hok
      rw [beq_eq_false_iff_ne.mpr (show ¬ (((encC ⟨a0, a1, g, ⟨s, d⟩, ⟨o0, o1, o2, o3⟩, bu, pa⟩).length : Int) = 0) by omega)]
      have hrd : wrap64 (rd (encC ⟨a0, a1, g, ⟨s, d⟩, ⟨o0, o1, o2, o3⟩, bu, pa⟩) 0) = a0 := by
        have hb := byte_iff.mp (okc_byte hok).1
        simp only at hb
        rw [show rd (encC ⟨a0, a1, g, ⟨s, d⟩, ⟨o0, o1, o2, o3⟩, bu, pa⟩) 0 = a0 from rfl]
        exact w64 (by omega) (by omega)
      obtain ⟨c, hc, hci⟩ := hk K (by omega)
      have hct := hci.mpr hok
      rw [hct] at hc
      have fin : ∀ n : Int, ((encC ⟨a0, a1, g, ⟨s, d⟩, ⟨o0, o1, o2, o3⟩, bu, pa⟩).length : Int) = n → ¬ a0 = 2 → fullerlaw23_ScriptSizes.j3 (K + 1) true (encC ⟨a0, a1, g, ⟨s, d⟩, ⟨o0, o1, o2, o3⟩, bu, pa⟩) n a0 a1 g s d o0 o1 o2 o3 bu pa = some true := fun n hn h2 => by
        rw [fullerlaw23_ScriptSizes.j3, if_neg h2, if_pos rfl, if_pos hn, if_pos (by omega), if_pos hrd, hc]
        rfl
      rw [fullerlaw23_ScriptSizes.j0, if_neg (by decide)]
      have l8 : ∀ n, (pkBytes 8 n).length = 8 := fun n => pkBytes_length 8 n
      have l2 : ∀ n, (pkBytes 2 n).length = 2 := fun n => pkBytes_length 2 n
      rcases hok with ⟨s', g', t', e, q1, q2, q3⟩ | ⟨k', s', e, q1, q2⟩ | ⟨s', o', u', e, q1, q2, q3⟩ | ⟨p', e, q1⟩ | ⟨k', e, q1⟩
      · injection e with r0 r1 r2 r3 r4 r5 r6
        subst r0 r1 r2 r3
        rw [if_pos (by omega), if_pos (by omega), fullerlaw23_ScriptSizes.j1, if_pos rfl, fullerlaw23_ScriptSizes.j2, if_neg (by decide), fullerlaw23_ScriptSizes.j3, if_pos rfl]
        rw [wwrite_f _ K (by omega), if_pos q2, iput_f [] s d (by simp) K (by omega)]
        simp only [Option.bind_some, if_true]
        have hG := encG_short q2
        have hlenC : (encC ⟨2, a1, g, ⟨s, d⟩, ⟨o0, o1, o2, o3⟩, bu, pa⟩).length = 4 + (encG g).length + (encI ⟨s, d⟩).length := by
          rw [enc2]
          simp only [List.length_cons, List.length_append, l2]
          omega
        unfold iput
        cases ht : tchk s d with
        | true =>
          have hE := encT_le ht
          have hI : (encI ⟨s, d⟩).length = 1 + (encT s d).length := by
            unfold encI
            simp only
            rw [if_neg (fun c => by rw [encT_not _ _ c] at ht; cases ht)]
            simp; omega
          simp only [if_true, List.nil_append]
          rw [if_pos (by rw [w64 (x := 5 + ((encG g).length : Int)) (by omega) (by omega), w64 (by omega) (by omega)]; omega), if_pos (by omega), if_pos hrd, hc]
          rfl
        | false =>
          have hE : s = [] ∧ d = [] := by
            rcases q3 with q3 | q3
            · exact q3
            · rw [ht] at q3; cases q3
          have hI : (encI ⟨s, d⟩).length = 1 := by
            unfold encI
            simp only
            rw [if_pos hE]; rfl
          simp only [Bool.false_eq_true, if_false]
          rw [if_neg (by decide), if_pos (by rfl), if_pos (by rw [w64 (x := 5 + ((encG g).length : Int)) (by omega) (by omega), w64 (by simp; omega) (by simp; omega)]; simp; omega), if_pos (by omega), if_pos hrd, hc]
          rfl
      · injection e with r0 r1 r2 r3 r4 r5 r6
        subst r0 r1 r2
        have hl : ((encC ⟨a0, a1, [], ⟨s, d⟩, ⟨o0, o1, o2, o3⟩, bu, pa⟩).length : Int) = 2 := by
          rw [enc45 q1]; rfl
        rw [if_pos (by omega), if_pos (by omega), fullerlaw23_ScriptSizes.j1, if_pos rfl, fullerlaw23_ScriptSizes.j2, if_neg (by omega)]
        exact fin 2 hl (by omega)
      · injection e with r0 r1 r2 r3 r4 r5 r6
        subst r0 r1 r2
        have hl : ((encC ⟨3, a1, [], ⟨s, d⟩, ⟨o0, o1, o2, o3⟩, bu, pa⟩).length : Int) = 28 := by
          rw [enc3]
          simp only [List.length_cons, List.length_append, l8, List.length_nil]
          omega
        rw [if_pos (by omega), if_pos (by omega), fullerlaw23_ScriptSizes.j1, if_pos rfl, fullerlaw23_ScriptSizes.j2, if_pos rfl]
        exact fin 28 hl (by omega)
      · injection e with r0 r1 r2 r3 r4 r5 r6
        subst r0 r1 r2
        have hl : ((encC ⟨8, 0, [], ⟨s, d⟩, ⟨o0, o1, o2, o3⟩, bu, pa⟩).length : Int) = 2 := by
          rw [enc8]; rfl
        rw [if_pos (by omega), if_neg (by omega), show ((8 : Int) == 8) = true from rfl, fullerlaw23_ScriptSizes.j1, if_pos rfl, fullerlaw23_ScriptSizes.j2, if_neg (by omega)]
        exact fin 2 hl (by omega)
      · injection e with r0 r1 r2 r3 r4 r5 r6
        subst r0 r1 r2
        have hl : ((encC ⟨a0, 0, [], ⟨s, d⟩, ⟨o0, o1, o2, o3⟩, bu, pa⟩).length : Int) = 1 := by
          rw [enc1 q1]; rfl
        have h8 : (a0 == 8) = false := beq_eq_false_iff_ne.mpr (by omega)
        have hj : fullerlaw23_ScriptSizes.j1 (K + 1 + 1 + 1) true (encC ⟨a0, 0, [], ⟨s, d⟩, ⟨o0, o1, o2, o3⟩, bu, pa⟩) 1 (a0 == 8) a0 0 [] s d o0 o1 o2 o3 bu pa = some true := by
          rw [h8, fullerlaw23_ScriptSizes.j1, if_neg (by decide), fullerlaw23_ScriptSizes.j2, if_neg (by omega)]
          exact fin 1 hl (by omega)
        by_cases c1 : a0 ≥ 2
        · rw [if_pos c1, if_neg (by omega)]; exact hj
        · rw [if_neg c1]; exact hj
    · rw [e0]
      simp only [Option.bind_some]
      rw [if_neg (by decide), fullerlaw23_ScriptSizes.j0, if_pos rfl, if_pos rfl]
      obtain ⟨c, hc, hci⟩ := hk (K + 1 + 1 + 1) (by omega)
      have hcf : c = false := by
        cases c with
        | false => rfl
        | true => exact absurd (fun x hx => by obtain rfl := List.mem_singleton.1 hx; exact hci.mp rfl) o0'
      rw [hc, hcf]
      rfl
end Go.Proofs.Ytjcgadfmhfhbgaa.Pure
