/- For all commands and cuts ScriptJoins answers true; no conditions but the sizes that the statement names. -/
import Derived.Test.YtjcgadfmhfhbgaaAx28
import Derived.Test.YtjcgadfmhfhbgaaScrD
namespace Go.Proofs.Ytjcgadfmhfhbgaa.Pure
open Go.RowKit Go.Proofs.Ytjcgadfmhfhbgaa.A Go.Proofs.YtjcgadfmhfhbgaaW.PrintWords Go.Proofs.YtjcgadfmhfhbgaaW.PrintLast Go.Proofs.Ytjcgadfmhfhbgaa.Plain
set_option linter.unusedVariables false
set_option linter.unusedSimpArgs false
theorem u16_in {a : Int} (h : (Lit.int .u16 a).wf = true) : 0 ≤ a ∧ a ≤ 65535 := by
  have h2 : IntKind.u16.min ≤ a ∧ a ≤ IntKind.u16.max := by simpa [Lit.wf] using h
  have e1 : IntKind.u16.min = 0 := rfl
  have e2 : IntKind.u16.max = 65535 := rfl
  omega
theorem ScriptJoins : fullerlaw23_ScriptJoins.Pure := by
  intro l0 l1 a2 h0 h1 ha
  obtain ⟨K, hK⟩ : ∃ K, K = l0.length + l1.length + 140737490000000 := ⟨_, rfl⟩
  have hl0 := h0.1
  have hl1 := h1.1
  have ha2 : 0 ≤ a2 ∧ a2 ≤ 65535 := u16_in ha
  refine ⟨K + 1 + 1 + 1, ?_⟩
  unfold fullerlaw23_ScriptJoins.f
  rw [awake_f _ (by omega), few21_f l0 100 140737488351232 (few_M h0.2) (by omega) (by omega) _ (by omega), few21_f l1 100 140737488351232 (few_M h1.2) (by omega) (by omega) _ (by omega)]
  simp only [Option.bind_some]
  have out : fullerlaw23_ScriptJoins.j0 (K + 1 + 1 + 1) l0 l1 a2 true true = some true := by rw [fullerlaw23_ScriptJoins.j0, if_pos rfl]
  cases hf0 : (l0.all fewC && decide ((l0.length : Int) ≤ 100)) with
  | false => rw [if_neg (by decide)]; exact out
  | true =>
    rw [if_pos rfl]
    cases hf1 : (l1.all fewC && decide ((l1.length : Int) ≤ 100)) with
    | false => exact out
    | true =>
      obtain ⟨s0, m0⟩ := few_all hf0
      obtain ⟨s1, m1⟩ := few_all hf1
      rw [Bool.not_true, fullerlaw23_ScriptJoins.j0, if_neg (by decide)]
      have sA : ∀ x ∈ l0 ++ l1, smallC x := fun x hx => (List.mem_append.mp hx).elim (fun h => (s0 x h).2) (fun h => (s1 x h).2)
      have bad : ∀ (u : List Int) (v : List Int), (¬ ∀ x ∈ l0 ++ l1, OKC x) → ∃ z, script_Write.f (K + 1 + 1) (l0 ++ l1) = some (z, 230) ∧ fullerlaw23_ScriptJoins.j1 (K + 1 + 1) l0 a2 true u v z 230 true = some true := fun u v hb => by
        rcases write_f (l0 ++ l1) sA (by rw [List.length_append]; omega) (K + 1 + 1) (by omega) with ⟨_, o⟩ | ⟨e, _⟩
        · exact absurd o hb
        · exact ⟨_, e, by rw [fullerlaw23_ScriptJoins.j1, if_pos rfl, if_pos rfl]; rfl⟩
      rcases write_f l0 (fun x hx => (s0 x hx).2) (by omega) (K + 1 + 1) (by omega) with ⟨e0, o0⟩ | ⟨e0, o0⟩
      · rcases write_f l1 (fun x hx => (s1 x hx).2) (by omega) (K + 1 + 1) (by omega) with ⟨e1, o1⟩ | ⟨e1, o1⟩
        · have oA : ∀ x ∈ l0 ++ l1, OKC x := fun x hx => (List.mem_append.mp hx).elim (o0 x) (o1 x)
          rcases write_f (l0 ++ l1) sA (by rw [List.length_append]; omega) (K + 1 + 1) (by omega) with ⟨eA, _⟩ | ⟨_, o⟩
          · rw [e0, e1]
            simp only [Option.bind_some, List.nil_append]
            rw [if_pos (by simp only [List.length_nil]; omega), if_pos (by omega), eA]
            simp only [Option.bind_some, if_true]
            rw [show ((0 : Int) != 0) = false from rfl, fullerlaw23_ScriptJoins.j1, if_neg (by decide)]
            have hAA : encCs (l0 ++ l1) = encCs l0 ++ encCs l1 := by simp [encCs]
            by_cases hz : l0 = []
            · subst hz
              rw [if_pos (by rfl), fullerlaw23_ScriptJoins.j2, if_pos rfl, if_pos rfl, if_pos rfl, if_pos (by rw [hAA]; rfl)]
              rfl
            · obtain ⟨x, r, rfl⟩ := List.exists_cons_of_ne_nil hz
              have ox := o0 x List.mem_cons_self
              have hx := encC_len ox
              have eC : encCs (x :: r) = encC x ++ encCs r := rfl
              have hcl : 1 ≤ (encCs (x :: r)).length := by rw [eC, List.length_append]; omega
              have hcu := encs_len (x :: r) o0
              have hcv := encs_len l1 o1
              rw [if_neg (by simp only [List.length_cons]; omega), beq_eq_false_iff_ne.mpr (show ¬ (((encCs (x :: r)).length : Int) = 0) by omega), fullerlaw23_ScriptJoins.j2, if_neg (by decide), if_pos (by simp only [List.length_cons]; omega)]
              rw [show List.take 1 (x :: r) = [x] from rfl]
              have wx : wideC x := wideC_in (h0.2 x List.mem_cons_self)
              have sx : smallC x := (s0 x List.mem_cons_self).2
              have e1x : encCs [x] = encC x := by simp [encCs]
              rcases write_f [x] (fun y hy => by obtain rfl := List.mem_singleton.1 hy; exact sx) (by simp) K (by omega) with ⟨ex, _⟩ | ⟨_, o⟩
              · rw [ex, e1x]
                simp only [Option.bind_some, if_true]
                have w2 : wrap64 a2 = a2 := w64 (by omega) (by omega)
                rw [w2, if_neg (by omega)]
                obtain ⟨m, hm⟩ : ∃ m, m = Int.tmod a2 ((encC x).length : Int) := ⟨_, rfl⟩
                have hm0 : 0 ≤ m := by rw [hm]; exact Int.tmod_nonneg _ ha2.1
                have hm1 : m < ((encC x).length : Int) := by rw [hm]; exact Int.tmod_lt_of_pos _ (by omega)
                rw [← hm]
                clear hm w2
                rw [if_pos hm0, if_pos (by omega)]
                have hsz : (strOfNums (encCs (x :: r))).size + (strOfNums (encCs l1)).size ≤ 9223372036854775807 := by rw [strOfNums_size, strOfNums_size]; simp only [List.length_cons] at hcu m0; omega
                have hstr : (strOfNums (encCs (x :: r ++ l1))).toList = (strOfNums (encCs (x :: r)) ++ strOfNums (encCs l1)).toList := by rw [hAA, str_append]
                have ox8 := octs_encC ox
                rcases read_inv ((encC x).take m.toNat) (octs_take ox8 _) (by rw [List.length_take]; omega) K (by rw [List.length_take]; omega) with ⟨l, hl, g1, g2, _⟩ | hl
                · rw [hl]
                  simp only [Option.bind_some, if_true]
                  rw [if_pos hsz, if_pos hstr]
                  by_cases hmz : m = 0
                  · rw [if_pos hmz]
                  · exfalso
                    refine cut_no ⟨ox, wx, sx⟩ (p := (encC x).take m.toNat) (t := (encC x).drop m.toNat) (List.take_append_drop _ _).symm ?_ ?_ l g1 g2
                    · intro e
                      have := congrArg List.length e
                      rw [List.length_take, List.length_nil] at this
                      omega
                    · intro e
                      have := congrArg List.length e
                      rw [List.length_drop, List.length_nil] at this
                      omega
                · have hmz : ¬ m = 0 := fun e => by
                    subst e
                    have := read_put [] (fun x hx => (by cases hx)) (by simp) K (by simp; omega)
                    rw [show encCs [] = [] from rfl] at this
                    rw [show List.take (0 : Int).toNat (encC x) = [] from rfl, this] at hl
                    simp at hl
                  rw [hl]
                  simp only [Option.bind_some, if_true]
                  rw [if_pos hsz, if_pos hstr, if_neg hmz, if_pos (by omega)]
                  rfl
              · exact absurd (fun y hy => by obtain rfl := List.mem_singleton.1 hy; exact ox) o
          · exact absurd oA o
        · obtain ⟨z, ez, ej⟩ := bad (encCs l0) [] (fun h => o1 (fun x hx => h x (List.mem_append.mpr (.inr hx))))
          rw [e0, e1]
          simp only [Option.bind_some, List.nil_append]
          rw [if_pos (by simp only [List.length_nil]; omega), if_pos (by omega), ez]
          simp only [Option.bind_some, if_true]
          exact ej
      · have hb : ¬ ∀ x ∈ l0 ++ l1, OKC x := fun h => o0 (fun x hx => h x (List.mem_append.mpr (.inl hx)))
        obtain ⟨y, e1⟩ : ∃ y, script_Write.f (K + 1 + 1) l1 = some y := by
          rcases write_f l1 (fun x hx => (s1 x hx).2) (by omega) (K + 1 + 1) (by omega) with ⟨e1, _⟩ | ⟨e1, _⟩
          · exact ⟨_, e1⟩
          · exact ⟨_, e1⟩
        obtain ⟨z, ez, ej⟩ := bad [] y.1 hb
        rw [e0, e1]
        simp only [Option.bind_some, List.nil_append]
        rw [if_pos (by simp only [List.length_nil]; omega), if_pos (by omega), ez]
        simp only [Option.bind_some]
        rw [if_neg (by decide)]
        exact ej
end Go.Proofs.Ytjcgadfmhfhbgaa.Pure
