/- Which tensors and versions are few, and which are the same; no conditions. -/
import Derived.Test.YtmolbbebglfhmaaChainA
import Derived.Test.YtmolbbebglfhmaaAx10
import Derived.Test.YtmolbbebglfhmaaAx11
import Derived.Test.YtmolbbebglfhmaaAx12
namespace Go.Proofs.Ytmolbbebglfhmaa.Plain
open Go.RowKit Go.Proofs.Ytmolbbebglfhmaa.A Go.Proofs.YtmolbbebglfhmaaW.PrintWords Go.Proofs.YtmolbbebglfhmaaW.PrintLast Go.Proofs.YtmolbbebglfhmaaW.PrintMore
set_option linter.unusedVariables false
set_option linter.unusedSimpArgs false
def fewT (s d : List Int) : Bool := decide (s.length ≤ 100) && decide (d.length ≤ 100)
theorem few_f (s d : List Int) : fullerref03_Few.f s d = some (fewT s d) := by
  unfold fullerref03_Few.f fewT
  by_cases h : (s.length : Int) ≤ 100
  · rw [if_pos h, decide_eq_true (show s.length ≤ 100 by omega), Bool.true_and]
    congr 1
    exact decide_eq_decide.mpr (by omega)
  · rw [if_neg h, decide_eq_false (show ¬ s.length ≤ 100 by omega), Bool.false_and]
theorem tsame_f (s d : List Int) (k : Nat) (hk : s.length + d.length + 1 ≤ k) (hm : k ≤ 9223372036854775806) : fullerref03_Same.f k s d s d = some true := by
  unfold fullerref03_Same.f
  rw [same_f s s (by omega) k (by omega)]
  simp only [Option.bind_some, decide_true, if_true]
  rw [same_f d d (by omega) k (by omega)]
  simp
theorem tsame_iff (s d s' d' : List Int) (k : Nat) (hk : s.length + d.length + 1 ≤ k) (hm : k ≤ 9223372036854775806) : fullerref03_Same.f k s d s' d' = some (decide (s = s') && decide (d = d')) := by
  unfold fullerref03_Same.f
  rw [same_f s s' (by omega) k (by omega)]
  simp only [Option.bind_some]
  by_cases h : s = s'
  · simp only [h, decide_true, if_true]
    rw [same_f d d' (by omega) k (by omega)]
    simp
  · simp [h]
theorem vsame_l0 (l : List S74) (M : Nat) (hM : ∀ v ∈ l, v.f1.f0.length ≤ M ∧ v.f1.f1.length ≤ M) (d : Nat) : ∀ (k i : Nat), l.length - i = d → i ≤ l.length → d + 2 * M + 2 ≤ k → k ≤ 9223372036854775806 → l.length ≤ 9223372036854775806 → fullerref17_Same.l0 k l l (i : Int) = some true := by
  induction d with
  | zero =>
    intro k i hdd hi hk _ _
    obtain ⟨k, rfl⟩ : ∃ m, k = m + 1 := ⟨k - 1, by omega⟩
    simp only [fullerref17_Same.l0]
    rw [if_neg (by omega)]
  | succ d ih =>
    intro k i hdd hi hk hk2 hm
    obtain ⟨k, rfl⟩ : ∃ m, k = m + 1 := ⟨k - 1, by omega⟩
    have hlt : i < l.length := by omega
    have hw : wrap64 ((i : Int) + 1) = ((i + 1 : Nat) : Int) := by rw [w64 (by omega) (by omega)]; omega
    have hb := hM l[i] (List.getElem_mem hlt)
    simp only [fullerref17_Same.l0]
    rw [if_pos (by omega), if_pos (by omega), if_pos (by omega), rdV hlt, tsame_f _ _ k (by omega) (by omega)]
    simp only [Option.bind_some, if_true]
    rw [hw, ih k (i + 1) (by omega) (by omega) (by omega) (by omega) hm]
theorem vsame_f (l : List S74) (M : Nat) (hM : ∀ v ∈ l, v.f1.f0.length ≤ M ∧ v.f1.f1.length ≤ M) (k : Nat) (hk : l.length + 2 * M + 2 ≤ k) (hk2 : k ≤ 9223372036854775806) : fullerref17_Same.f k l l = some true := by
  unfold fullerref17_Same.f
  rw [if_pos rfl]
  exact vsame_l0 l M hM l.length k 0 (by omega) (by omega) (by omega) hk2 (by omega)
def fewV (l : List S74) : Bool := (l.all fun v => fewT v.f1.f0 v.f1.f1) && decide (l.length ≤ 30)
theorem fewV_l0 (l : List S74) (hm : l.length ≤ 9223372036854775806) (d : Nat) : ∀ (k i : Nat), l.length - i = d → i ≤ l.length → d + 1 ≤ k →
    fullerref17_Few.l0 k l (i : Int) = some (((l.drop i).all fun v => fewT v.f1.f0 v.f1.f1) && decide (l.length ≤ 30)) := by
  induction d with
  | zero =>
    intro k i hdd hi hk
    obtain ⟨k, rfl⟩ : ∃ m, k = m + 1 := ⟨k - 1, by omega⟩
    simp only [fullerref17_Few.l0]
    rw [if_neg (by omega), List.drop_eq_nil_of_le (by omega)]
    simp only [List.all_nil, Bool.true_and]
    congr 1
    exact decide_eq_decide.mpr (by omega)
  | succ d ih =>
    intro k i hdd hi hk
    obtain ⟨k, rfl⟩ : ∃ m, k = m + 1 := ⟨k - 1, by omega⟩
    have hlt : i < l.length := by omega
    have hw : wrap64 ((i : Int) + 1) = ((i + 1 : Nat) : Int) := by rw [w64 (by omega) (by omega)]; omega
    simp only [fullerref17_Few.l0]
    rw [if_pos (by omega), if_pos (by omega), rdV hlt, dropV hlt, few_f]
    simp only [Option.bind_some, List.all_cons]
    cases fewT l[i].f1.f0 l[i].f1.f1 with
    | false => simp
    | true =>
      rw [if_pos rfl, hw, ih k (i + 1) (by omega) (by omega) (by omega), Bool.true_and]
theorem fewV_f (l : List S74) (hm : l.length ≤ 9223372036854775806) (k : Nat) (hk : l.length + 1 ≤ k) : fullerref17_Few.f k l = some (fewV l) := by
  unfold fullerref17_Few.f fewV
  have := fewV_l0 l hm l.length k 0 (by omega) (by omega) hk
  simpa using this
theorem fewV_iff {l : List S74} (h : fewV l = true) : l.length ≤ 30 ∧ ∀ v ∈ l, v.f1.f0.length ≤ 100 ∧ v.f1.f1.length ≤ 100 := by
  simp only [fewV, Bool.and_eq_true, List.all_eq_true, decide_eq_true_eq, fewT] at h
  exact ⟨h.2, h.1⟩
end Go.Proofs.Ytmolbbebglfhmaa.Plain
