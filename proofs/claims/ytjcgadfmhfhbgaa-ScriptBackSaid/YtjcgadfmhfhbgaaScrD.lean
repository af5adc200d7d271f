/- Commands, in plain words: which are few, which are the same; the calls whose answers the document fixes; no conditions. -/
import Derived.Test.YtjcgadfmhfhbgaaScrA
import Derived.Test.YtjcgadfmhfhbgaaAx15
import Derived.Test.YtjcgadfmhfhbgaaAx14
namespace Go.Proofs.Ytjcgadfmhfhbgaa.Plain
open Go.RowKit Go.Proofs.Ytjcgadfmhfhbgaa.A Go.Proofs.YtjcgadfmhfhbgaaW.PrintWords Go.Proofs.YtjcgadfmhfhbgaaW.PrintLast Go.Proofs.YtjcgadfmhfhbgaaW.PrintMore
set_option linter.unusedVariables false
set_option linter.unusedSimpArgs false
theorem rdC {l : List S30} {i : Nat} (h : i < l.length) : rd_T30 l (i : Int) = l[i] := by simp [rd_T30, List.getD_eq_getElem?_getD, h]
def fewC (x : S30) : Bool := fewG x.f2 && fewT x.f3.f0 x.f3.f1
theorem few21_l0 (l : List S30) (m : Int) (M : Nat) (hM : ∀ x ∈ l, x.f2.length ≤ M) (hm : M ≤ 9223372036854775806) (hl : l.length ≤ 9223372036854775806) (d : Nat) : ∀ (k i : Nat), l.length - i = d → i ≤ l.length → d + M + 2 ≤ k →
    fullerref21_Cmds.l0 k l m (i : Int) = some ((l.drop i).all fewC && decide ((l.length : Int) ≤ m)) := by
  induction d with
  | zero =>
    intro k i hd hi hk
    obtain ⟨k, rfl⟩ : ∃ q, k = q + 1 := ⟨k - 1, by omega⟩
    rw [fullerref21_Cmds.l0, if_neg (by omega), List.drop_eq_nil_of_le (by omega)]
    simp
  | succ d ih =>
    intro k i hd hi hk
    obtain ⟨k, rfl⟩ : ∃ q, k = q + 1 := ⟨k - 1, by omega⟩
    have hil : i < l.length := by omega
    have ih' := ih k (i + 1) (by omega) (by omega) (by omega)
    have hx := hM l[i] (List.getElem_mem hil)
    have e : wrap64 ((i : Int) + 1) = ((i + 1 : Nat) : Int) := by unfold wrap64; omega
    rw [fullerref21_Cmds.l0, if_pos (by omega), if_pos (by omega), rdC hil, few10_f _ (by omega) k (by omega), few_f, e, ih', List.drop_eq_getElem_cons hil, List.all_cons]
    clear e ih'
    simp only [Option.bind_some, fewC]
    cases fewG l[i].f2 <;> cases fewT l[i].f3.f0 l[i].f3.f1 <;> simp
theorem few21_f (l : List S30) (m : Int) (M : Nat) (hM : ∀ x ∈ l, x.f2.length ≤ M) (hm : M ≤ 9223372036854775806) (hl : l.length ≤ 9223372036854775806) (k : Nat) (hk : l.length + M + 2 ≤ k) :
    fullerref21_Cmds.f k l m = some (l.all fewC && decide ((l.length : Int) ≤ m)) := by
  unfold fullerref21_Cmds.f
  have := few21_l0 l m M hM hm hl l.length k 0 (by omega) (by omega) hk
  simpa using this
/-- Such as is told the same in few rounds. -/
def fitC (x : S30) : Prop := x.f2.length ≤ 1000 ∧ (∀ n ∈ x.f2, n.f1.length ≤ 1000 ∧ n.f2.length ≤ 1000) ∧ x.f3.f0.length ≤ 1000 ∧ x.f3.f1.length ≤ 1000
theorem few_fit {x : S30} (h : fewC x = true) : fitC x ∧ smallC x := by
  unfold fewC at h
  rw [Bool.and_eq_true] at h
  obtain ⟨h1, h2⟩ := fewG_iff h.1
  have h3 : x.f3.f0.length ≤ 100 ∧ x.f3.f1.length ≤ 100 := by simpa [fewT] using h.2
  exact ⟨⟨by omega, fun n hn => by have := h2 n hn; omega, by omega, by omega⟩, by omega, by omega, by omega⟩
theorem ok_fit {x : S30} (h : OKC x) : fitC x := by
  rcases h with ⟨s, g, t, rfl, h1, h2, h3⟩ | ⟨k', s, rfl, h1, h2⟩ | ⟨s, o, u, rfl, h1, h2, h3⟩ | ⟨p, rfl, h1⟩ | ⟨k', rfl, h1⟩
  · have hg := gchk_iff.mp h2
    have h4 : t.f0.length ≤ 1000 ∧ t.f1.length ≤ 1000 := by
      rcases h3 with ⟨e1, e2⟩ | h3
      · rw [e1, e2]; simp
      · have := tchk_len h3; omega
    exact ⟨by have := hg.le; simp only; omega, fun n hn => by have := ok_small hg n hn; omega, h4.1, h4.2⟩
  all_goals exact ⟨by simp, fun n hn => (by cases hn), by simp, by simp⟩
theorem same_j1 (k : Nat) (a b : List S30) (i : Int) : fullerref23_Same.j1 (k + 1) a b i true = some false := by rw [fullerref23_Same.j1, if_pos rfl]
theorem same23_l0 (a b : List S30) (hab : a.length = b.length) (ha : a.length ≤ 1000000) (hs : ∀ x ∈ a, fitC x) (d : Nat) : ∀ (k i : Nat), a.length - i = d → i ≤ a.length → 2 * d + 5000 ≤ k → k ≤ 9223372036854775806 →
    ∃ q, fullerref23_Same.l0 k a b (i : Int) = some q ∧ (q = true ↔ a.drop i = b.drop i) := by
  induction d with
  | zero =>
    intro k i hd hi hk _
    obtain ⟨k, rfl⟩ : ∃ q, k = q + 1 := ⟨k - 1, by omega⟩
    rw [fullerref23_Same.l0, if_neg (by omega), List.drop_eq_nil_of_le (by omega), List.drop_eq_nil_of_le (by omega)]
    exact ⟨true, rfl, by simp⟩
  | succ d ih =>
    intro k i hd hi hk hk2
    obtain ⟨k, rfl⟩ : ∃ q, k = q + 2 := ⟨k - 2, by omega⟩
    have hil : i < a.length := by omega
    have hjl : i < b.length := by omega
    obtain ⟨q, hq, hqi⟩ := ih k (i + 1) (by omega) (by omega) (by omega) (by omega)
    have hx := hs a[i] (List.getElem_mem hil)
    have e : wrap64 ((i : Int) + 1) = ((i + 1 : Nat) : Int) := by unfold wrap64; omega
    rw [fullerref23_Same.l0, if_pos (by omega), if_pos (by omega), if_pos (by omega), rdC hil, rdC hjl, List.drop_eq_getElem_cons hil, List.drop_eq_getElem_cons hjl]
    have hnext : fullerref23_Same.j1 (k + 1) a b (i : Int) false = some q := by rw [fullerref23_Same.j1, if_neg (by decide), e, hq]
    clear e hq ih
    generalize a[i] = x at hx ⊢
    generalize b[i] = y
    obtain ⟨f1, f2, f3, f4⟩ := hx
    rw [same10_f x.f2 y.f2 (by omega) f2 (k + 1) (by omega), tsame_iff _ _ _ _ (k + 1) (by omega) (by omega)]
    simp only [Option.bind_some]
    have no : ∀ (h : ¬ x = y), ∃ p, some false = some p ∧ (p = true ↔ x :: a.drop (i + 1) = y :: b.drop (i + 1)) := fun h => ⟨false, rfl, ⟨fun h => (by cases h), fun e => by injection e with e _; exact absurd e h⟩⟩
    obtain ⟨x0, x1, x2, ⟨x3, x4⟩, ⟨x5, x6, x7, x8⟩, x9, x10⟩ := x
    obtain ⟨y0, y1, y2, ⟨y3, y4⟩, ⟨y5, y6, y7, y8⟩, y9, y10⟩ := y
    simp only at *
    rw [same_j1]
    by_cases c1 : sameG x2 y2 = true
    · rw [if_pos c1]
      have c1 := sameG_iff.mp c1
      subst c1
      by_cases c2 : (decide (x3 = y3) && decide (x4 = y4)) = true
      · rw [if_pos c2]
        rw [Bool.and_eq_true, decide_eq_true_eq, decide_eq_true_eq] at c2
        obtain ⟨rfl, rfl⟩ := c2
        by_cases c3 : x0 = y0
        · subst c3
          rw [if_pos rfl]
          by_cases c4 : x1 = y1
          · subst c4
            rw [if_pos rfl]
            by_cases c5 : (!(x5 == y5) || (!(x6 == y6) || (!(x7 == y7) || (!(x8 == y8))))) = true
            · rw [if_pos c5]
              refine no (fun h => ?_)
              injection h with h0 h1 h2 h3 h4
              injection h4 with q0 q1 q2 q3
              subst q0 q1 q2 q3
              simp at c5
            · rw [if_neg c5]
              have c5 : x5 = y5 ∧ x6 = y6 ∧ x7 = y7 ∧ x8 = y8 := by simpa [not_or] using c5
              obtain ⟨rfl, rfl, rfl, rfl⟩ := c5
              by_cases c6 : x9 = y9
              · subst c6
                rw [if_pos rfl]
                by_cases c7 : x10 = y10
                · subst c7
                  rw [bne_self_eq_false, hnext]
                  exact ⟨q, rfl, hqi.trans ⟨fun h => by rw [h], fun h => by injection h⟩⟩
                · rw [bne_iff_ne.mpr c7, same_j1]
                  refine no (fun h => ?_)
                  injection h with h0 h1 h2 h3 h4 h5 h6
                  exact c7 h6
              · rw [if_neg c6]
                refine no (fun h => ?_)
                injection h with h0 h1 h2 h3 h4 h5 h6
                exact c6 h5
          · rw [if_neg c4]
            refine no (fun h => ?_)
            injection h with h0 h1
            exact c4 h1
        · rw [if_neg c3]
          refine no (fun h => ?_)
          injection h with h0 h1
          exact c3 h0
      · rw [if_neg c2]
        refine no (fun h => ?_)
        injection h with h0 h1 h2 h3
        injection h3 with q0 q1
        subst q0 q1
        simp at c2
    · rw [if_neg c1]
      refine no (fun h => ?_)
      injection h with h0 h1 h2 h3
      exact c1 (sameG_iff.mpr h2)
theorem same23_f (a b : List S30) (ha : a.length ≤ 1000000) (hs : ∀ x ∈ a, fitC x) (k : Nat) (hk : 2 * a.length + 5000 ≤ k) (hk2 : k ≤ 9223372036854775806) :
    ∃ q, fullerref23_Same.f k a b = some q ∧ (q = true ↔ a = b) := by
  unfold fullerref23_Same.f
  by_cases h : a.length = b.length
  · rw [if_pos (by omega)]
    have := same23_l0 a b h ha hs a.length k 0 (by omega) (by omega) hk hk2
    simpa using this
  · rw [if_neg (by omega)]
    exact ⟨false, rfl, ⟨fun h => (by cases h), fun e => absurd (congrArg List.length e) h⟩⟩
theorem inI_in {n : Int} (h : (Lit.int .i64 n).wf = true) : inI n := wide_in (b := [n]) (fun x hx => by obtain rfl := List.mem_singleton.1 hx; exact h) n (by simp)
theorem wideC_in {x : S30} (h : OK30 x) : wideC x := ⟨wideG_in h.2.2.1.2, wide_in h.2.2.2.1.2.2, inI_in h.2.2.2.2.1.2.1, inI_in h.2.2.2.2.1.2.2.1, inI_in h.2.2.2.2.1.2.2.2⟩
theorem few_M {l : List S30} (h : ∀ x_ ∈ l, OK30 x_) : ∀ x ∈ l, x.f2.length ≤ 140737488351232 := fun x hx => by have := (h x hx).2.2.1.1; omega
theorem few_all {l : List S30} {m : Int} (h : (l.all fewC && decide ((l.length : Int) ≤ m)) = true) : (∀ x ∈ l, fitC x ∧ smallC x) ∧ (l.length : Int) ≤ m := by
  rw [Bool.and_eq_true, List.all_eq_true, decide_eq_true_eq] at h
  exact ⟨fun x hx => few_fit (h.1 x hx), h.2⟩
theorem octs_encCs {l : List S30} (h : ∀ x ∈ l, OKC x) : octs (encCs l) := fun y hy => by
  obtain ⟨z, hz, hy⟩ := List.mem_flatMap.mp hy
  exact octs_encC (h z hz) y hy
theorem awake_f (k : Nat) (hk : 200 ≤ k) : fullerlaw23_awake.f k = some true := at_rounds fullerlaw23_awake.mono hk (by decide +kernel)
end Go.Proofs.Ytjcgadfmhfhbgaa.Plain
