/- For all commands and bytes ScriptBack answers true; no conditions but the sizes that the statement names. -/
import Derived.Test.YtjcgadfmhfhbgaaAx27
import Derived.Test.YtjcgadfmhfhbgaaScrD
namespace Go.Proofs.Ytjcgadfmhfhbgaa.Pure
open Go.RowKit Go.Proofs.Ytjcgadfmhfhbgaa.A Go.Proofs.YtjcgadfmhfhbgaaW.PrintWords Go.Proofs.YtjcgadfmhfhbgaaW.PrintLast Go.Proofs.Ytjcgadfmhfhbgaa.Plain
set_option linter.unusedVariables false
set_option linter.unusedSimpArgs false
theorem back_l0 (x0 : List S30) (x1 : List Int) (x6 : List Int) (x7 : Int) (x8 : List S30) (x9 : Int) (x10 : List S30) (x11 : Int) (x12 : List Int) (x13 : Int) (hs : ∀ x ∈ x0, smallC x) (hl : x0.length ≤ 1000000)
    (hF : ∀ k b, 10000 ≤ k → k ≤ 9223372036854775800 → (b = true ↔ ∀ x ∈ x0, OKC x) → fullerlaw23_ScriptBack.l0 (k + 1) x0 x1 true x6 x7 x8 x9 x10 x11 x12 x13 b (x0.length : Int) = some true) (d : Nat) :
    ∀ (k i : Nat) (b : Bool), x0.length - i = d → i ≤ x0.length → d + 10002 ≤ k → k ≤ 9223372036854775800 → (b = true ↔ ∀ x ∈ x0.take i, OKC x) → fullerlaw23_ScriptBack.l0 k x0 x1 true x6 x7 x8 x9 x10 x11 x12 x13 b (i : Int) = some true := by
  induction d with
  | zero =>
    intro k i b hd hi hk hk2 hb
    obtain ⟨k, rfl⟩ : ∃ q, k = q + 1 := ⟨k - 1, by omega⟩
    have e : i = x0.length := by omega
    subst e
    rw [List.take_length] at hb
    exact hF k b (by omega) (by omega) hb
  | succ d ih =>
    intro k i b hd hi hk hk2 hb
    obtain ⟨k, rfl⟩ : ∃ q, k = q + 1 := ⟨k - 1, by omega⟩
    have hil : i < x0.length := by omega
    have e : wrap64 ((i : Int) + 1) = ((i + 1 : Nat) : Int) := by unfold wrap64; omega
    have ht : x0.take (i + 1) = x0.take i ++ [x0[i]] := List.take_succ_eq_append_getElem hil
    rw [fullerlaw23_ScriptBack.l0, if_pos (by omega), e]
    clear e
    cases b with
    | true =>
      rw [if_pos rfl, if_pos (by omega), rdC hil]
      obtain ⟨c, hc, hci⟩ := chk_ex x0[i] (hs _ (List.getElem_mem hil)) k (by omega)
      have hc' : script_Check.f k x0[i].f0 x0[i].f1 x0[i].f2 x0[i].f3.f0 x0[i].f3.f1 x0[i].f4.f0 x0[i].f4.f1 x0[i].f4.f2 x0[i].f4.f3 x0[i].f5 x0[i].f6 = some c := hc
      rw [hc', Option.bind_some]
      refine ih k (i + 1) c (by omega) (by omega) (by omega) (by omega) (hci.trans ?_)
      rw [ht]
      constructor
      · intro h x hx
        rcases List.mem_append.mp hx with hx | hx
        · exact hb.mp rfl x hx
        · obtain rfl := List.mem_singleton.1 hx; exact h
      · intro h
        exact h _ (List.mem_append.mpr (.inr (List.mem_singleton.2 rfl)))
    | false =>
      rw [if_neg (by decide)]
      refine ih k (i + 1) false (by omega) (by omega) (by omega) (by omega) ⟨fun h => (by cases h), fun h => ?_⟩
      exact hb.mpr (fun x hx => h x (by rw [ht]; exact List.mem_append.mpr (.inl hx)))
theorem ScriptBack : fullerlaw23_ScriptBack.Pure := by
  intro l0 l1 h0 h1
  have ho := octs_in h1.2
  obtain ⟨K, hK⟩ : ∃ K, K = l0.length + l1.length + 140737490000000 := ⟨_, rfl⟩
  have hl0 := h0.1
  have hl1 := h1.1
  refine ⟨K + 1, ?_⟩
  unfold fullerlaw23_ScriptBack.f
  rw [awake_f _ (by omega), few21_f l0 300 140737488351232 (few_M h0.2) (by omega) (by omega) _ (by omega)]
  simp only [Option.bind_some]
  have out : fullerlaw23_ScriptBack.j0 (K + 1) l0 l1 true true = some true := by rw [fullerlaw23_ScriptBack.j0, if_pos rfl]
  cases hf0 : (l0.all fewC && decide ((l0.length : Int) ≤ 300)) with
  | false => rw [if_neg (by decide)]; exact out
  | true =>
    rw [if_pos rfl]
    by_cases c : (l1.length : Int) > 9000
    · rw [decide_eq_true c]; exact out
    · obtain ⟨s0, m0⟩ := few_all hf0
      rw [decide_eq_false c, fullerlaw23_ScriptBack.j0, if_neg (by decide)]
      have two : ∃ y e v e2, script_Read.f K l1 = some (y, e) ∧ script_Write.f K y = some (v, e2) ∧ ((e = 0 ∧ e2 = 0 ∧ v = l1) ∨ (¬ e = 0 ∧ y = [])) := by
        rcases read_inv l1 ho (by omega) K (by omega) with ⟨y, hy, g1, g2, g3⟩ | hy
        · rcases write_f y (fun x hx => (g1 x hx).2.2) (by omega) K (by omega) with ⟨e1, o1⟩ | ⟨e1, o1⟩
          · exact ⟨y, 0, _, 0, hy, e1, .inl ⟨rfl, rfl, g2⟩⟩
          · exact absurd (fun x hx => (g1 x hx).1) o1
        · obtain ⟨v, e2, hv⟩ : ∃ v e2, script_Write.f K [] = some (v, e2) := by
            rcases write_f [] (fun x hx => (by cases hx)) (by simp) K (by omega) with ⟨e1, _⟩ | ⟨e1, _⟩
            · exact ⟨_, _, e1⟩
            · exact ⟨_, _, e1⟩
          exact ⟨[], 230, v, e2, hy, hv, .inr ⟨by decide, rfl⟩⟩
      obtain ⟨y, e, v, e2, hy, hv, h2⟩ := two
      rcases write_f l0 (fun x hx => (s0 x hx).2) (by omega) K (by omega) with ⟨ew, ow⟩ | ⟨ew, ow⟩
      · have hr := read_put l0 (fun x hx => ⟨ow x hx, wideC_in (h0.2 x hx), (s0 x hx).2⟩) (by omega) K (by omega)
        rw [ew]
        simp only [Option.bind_some]
        rw [hr]
        simp only [Option.bind_some]
        rw [hy]
        simp only [Option.bind_some]
        rw [hv]
        simp only [Option.bind_some]
        refine back_l0 l0 l1 _ _ _ _ _ _ _ _ (fun x hx => (s0 x hx).2) (by omega) (fun k b hk hk2 hb => ?_) l0.length K 0 true (by omega) (by omega) (by omega) (by omega) (by simp)
        rw [fullerlaw23_ScriptBack.l0, if_neg (by omega), if_pos rfl, hb.mpr ow, if_pos rfl, if_pos rfl]
        obtain ⟨q, hq, hqi⟩ := same23_f l0 l0 (by omega) (fun x hx => (s0 x hx).1) k (by omega) (by omega)
        rw [hq, hqi.mpr rfl]
        simp only [Option.bind_some, if_true]
        rcases h2 with ⟨rfl, rfl, rfl⟩ | ⟨h3, rfl⟩
        · rw [if_pos rfl, if_pos rfl]; simp
        · rw [if_neg h3, if_pos (by rfl)]
      · have hr : ∃ y2 e3, script_Read.f K [] = some (y2, e3) := by
          rcases read_inv [] octs_nil (by simp) K (by simp; omega) with ⟨y, hy, _⟩ | hy
          · exact ⟨_, _, hy⟩
          · exact ⟨_, _, hy⟩
        obtain ⟨y2, e3, hr⟩ := hr
        rw [ew]
        simp only [Option.bind_some]
        rw [hr]
        simp only [Option.bind_some]
        rw [hy]
        simp only [Option.bind_some]
        rw [hv]
        simp only [Option.bind_some]
        refine back_l0 l0 l1 _ _ _ _ _ _ _ _ (fun x hx => (s0 x hx).2) (by omega) (fun k b hk hk2 hb => ?_) l0.length K 0 true (by omega) (by omega) (by omega) (by omega) (by simp)
        have hbf : b = false := by
          cases b with
          | false => rfl
          | true => exact absurd (hb.mp rfl) ow
        rw [fullerlaw23_ScriptBack.l0, if_neg (by omega), if_neg (by decide), hbf, if_neg (by decide), if_pos (by rfl), if_pos rfl]
        rcases h2 with ⟨rfl, rfl, rfl⟩ | ⟨h3, rfl⟩
        · rw [if_pos rfl, if_pos rfl]; simp
        · rw [if_neg h3, if_pos (by rfl)]
end Go.Proofs.Ytjcgadfmhfhbgaa.Pure
