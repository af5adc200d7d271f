/- Commands, in plain words: which are few, which are the same; the calls whose answers the document fixes; no conditions. -/
import Derived.Test.YtjcgadfmhfhbgaaScrA
import Derived.Test.YtjcgadfmhfhbgaaAx15
import Derived.Test.YtjcgadfmhfhbgaaAx14
namespace Go.Proofs.Ytjcgadfmhfhbgaa.Plain
open Go.RowKit Go.Proofs.Ytjcgadfmhfhbgaa.A Go.Proofs.YtjcgadfmhfhbgaaW.PrintWords Go.Proofs.YtjcgadfmhfhbgaaW.PrintLast Go.Proofs.YtjcgadfmhfhbgaaW.PrintMore
set_option linter.unusedVariables false
set_option linter.unusedSimpArgs false
theorem rdC {l : List S30} {i : Nat} (h : i < l.length) : rd_T30 l (i : Int) = l[i] := by simp [rd_T30, List.getD_eq_getElem?_getD, h]
def fewC (x : S30) : Bool := fewG x.f2 && fewT x.f3.f0 x.f3.f1
theorem few21_l0 (l : List S30) (m : Int) (M : Nat) (hM : ∀ x ∈ l, x.f2.length ≤ M) (hm : M ≤ 9223372036854775806) (hl : l.length ≤ 9223372036854775806) (d : Nat) : ∀ (k i : Nat), l.length - i = d → i ≤ l.length → d + M + 2 ≤ k →
    fullerref21_Cmds.l0 k l m (i : Int) = some ((l.drop i).all fewC && decide ((l.length : Int) ≤ m)) := by
  induction d with
  | zero =>
    intro k i hd hi hk
    obtain ⟨k, rfl⟩ : ∃ q, k = q + 1 := ⟨k - 1, by omega⟩
    rw [fullerref21_Cmds.l0, if_neg (by omega), List.drop_eq_nil_of_le (by omega)]
    simp
  | succ d ih =>
    intro k i hd hi hk
    obtain ⟨k, rfl⟩ : ∃ q, k = q + 1 := ⟨k - 1, by omega⟩
    have hil : i < l.length := by omega
    have ih' := ih k (i + 1) (by omega) (by omega) (by omega)
    have hx := hM l[i] (List.getElem_mem hil)
    have e : wrap64 ((i : Int) + 1) = ((i + 1 : Nat) : Int) := by unfold wrap64; omega
    rw [fullerref21_Cmds.l0, if_pos (by omega), if_pos (by omega), rdC hil, few10_f _ (by omega) k (by omega), few_f, e, ih', List.drop_eq_getElem_cons hil, List.all_cons]
    clear e ih'
    simp only [Option.bind_some, fewC]
    cases fewG l[i].f2 <;> cases fewT l[i].f3.f0 l[i].f3.f1 <;> simp
theorem few21_f (l : List S30) (m : Int) (M : Nat) (hM : ∀ x ∈ l, x.f2.length ≤ M) (hm : M ≤ 9223372036854775806) (hl : l.length ≤ 9223372036854775806) (k : Nat) (hk : l.length + M + 2 ≤ k) :
    fullerref21_Cmds.f k l m = some (l.all fewC && decide ((l.length : Int) ≤ m)) := by
  unfold fullerref21_Cmds.f
  have := few21_l0 l m M hM hm hl l.length k 0 (by omega) (by omega) hk
  simpa using this
def fitC (x : S30) : Prop := x.f2.length ≤ 1000 ∧ (∀ n ∈ x.f2, n.f1.length ≤ 1000 ∧ n.f2.length ≤ 1000) ∧ x.f3.f0.length ≤ 1000 ∧ x.f3.f1.length ≤ 1000
theorem few_fit {x : S30} (h : fewC x = true) : fitC x ∧ smallC x := by
  unfold fewC at h
  rw [Bool.and_eq_true] at h
  obtain ⟨h1, h2⟩ := fewG_iff h.1
  have h3 : x.f3.f0.length ≤ 100 ∧ x.f3.f1.length ≤ 100 := by simpa [fewT] using h.2
  exact ⟨⟨by omega, fun n hn => by have := h2 n hn; omega, by omega, by omega⟩, by omega, by omega, by omega⟩
theorem few_all {l : List S30} {m : Int} (h : (l.all fewC && decide ((l.length : Int) ≤ m)) = true) : (∀ x ∈ l, fitC x ∧ smallC x) ∧ (l.length : Int) ≤ m := by
  rw [Bool.and_eq_true, List.all_eq_true, decide_eq_true_eq] at h
  exact ⟨fun x hx => few_fit (h.1 x hx), h.2⟩
theorem awake_f (k : Nat) (hk : 200 ≤ k) : fullerlaw23_awake.f k = some true := at_rounds fullerlaw23_awake.mono hk (by decide +kernel)
end Go.Proofs.Ytjcgadfmhfhbgaa.Plain
