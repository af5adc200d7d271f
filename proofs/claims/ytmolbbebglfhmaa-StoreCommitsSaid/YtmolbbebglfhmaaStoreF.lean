/- Which stores and writes are few, and that a store is the same as itself; no conditions. -/
import Derived.Test.YtmolbbebglfhmaaStoreA
import Derived.Test.YtmolbbebglfhmaaChainF
import Derived.Test.YtmolbbebglfhmaaAx11
import Derived.Test.YtmolbbebglfhmaaAx13
import Derived.Test.YtmolbbebglfhmaaAx16
namespace Go.Proofs.Ytmolbbebglfhmaa.Plain
open Go.RowKit Go.Proofs.Ytmolbbebglfhmaa.A Go.Proofs.YtmolbbebglfhmaaW.PrintWords Go.Proofs.YtmolbbebglfhmaaW.PrintLast Go.Proofs.YtmolbbebglfhmaaW.PrintMore
set_option linter.unusedVariables false
set_option linter.unusedSimpArgs false
theorem up1 {i : Nat} (h : i ≤ 9223372036854775805) : wrap64 ((i : Int) + 1) = ((i + 1 : Nat) : Int) := by rw [w64 (by omega) (by omega)]; omega
theorem sfew_l0 (C : List (List S74)) (now : Int) (P : List Int) (M : Nat) (hM : ∀ l ∈ C, l.length ≤ M) (hMb : M ≤ 9223372036854775800) (hm : C.length ≤ 9223372036854775800) (d : Nat) : ∀ (k i : Nat), C.length - i = d → i ≤ C.length → d + M + 2 ≤ k →
    ∃ b, fullerref18_Few.l0 k (i : Int) C now P = some b ∧ (b = true → (∀ l ∈ C.drop i, fewV l = true) ∧ C.length ≤ 10 ∧ P.length ≤ 100) := by
  induction d with
  | zero =>
    intro k i hdd hi hk
    obtain ⟨k, rfl⟩ : ∃ m, k = m + 1 := ⟨k - 1, by omega⟩
    simp only [fullerref18_Few.l0]
    rw [if_neg (by omega), List.drop_eq_nil_of_le (by omega)]
    by_cases c : (C.length : Int) ≤ 10
    · rw [if_pos c]
      exact ⟨_, rfl, fun h => ⟨by simp, by omega, by have := of_decide_eq_true h; omega⟩⟩
    · rw [if_neg c]; exact ⟨_, rfl, fun h => by cases h⟩
  | succ d ih =>
    intro k i hdd hi hk
    obtain ⟨k, rfl⟩ : ∃ m, k = m + 1 := ⟨k - 1, by omega⟩
    have hlt : i < C.length := by omega
    have hl := hM _ (List.getElem_mem hlt)
    simp only [fullerref18_Few.l0]
    rw [if_pos (by omega), if_pos (by omega), rdL_eq hlt, fewV_f _ (by omega) k (by omega)]
    simp only [Option.bind_some]
    cases c : fewV C[i] with
    | false => rw [if_neg (by simp)]; exact ⟨_, rfl, fun h => by cases h⟩
    | true =>
      rw [if_pos rfl, up1 (by omega)]
      obtain ⟨b, hb, hi2⟩ := ih k (i + 1) (by omega) (by omega) (by omega)
      refine ⟨b, hb, fun h => ⟨?_, (hi2 h).2⟩⟩
      rw [List.drop_eq_getElem_cons hlt]
      intro l hl2
      rcases List.mem_cons.mp hl2 with rfl | hl2
      · exact c
      · exact (hi2 h).1 l hl2
theorem sfew_f (C : List (List S74)) (now : Int) (P : List Int) (M : Nat) (hM : ∀ l ∈ C, l.length ≤ M) (hMb : M ≤ 9223372036854775800) (hm : C.length ≤ 9223372036854775800) (k : Nat) (hk : C.length + M + 2 ≤ k) :
    ∃ b, fullerref18_Few.f k C now P = some b ∧ (b = true → (∀ l ∈ C, fewV l = true) ∧ C.length ≤ 10 ∧ P.length ≤ 100) := by
  unfold fullerref18_Few.f
  have := sfew_l0 C now P M hM hMb hm C.length k 0 (by omega) (by omega) hk
  rw [List.drop_zero] at this
  exact this
theorem rdW {l : List S42} {i : Nat} (h : i < l.length) : rd_T42 l (i : Int) = l[i] := by simp [rd_T42, List.getD_eq_getElem?_getD, h]
theorem rdT {l : List S37} {i : Nat} (h : i < l.length) : rd_T37 l (i : Int) = l[i] := by simp [rd_T37, List.getD_eq_getElem?_getD, h]
theorem wfew_l0 (ws : List S42) (n : Int) (hm : ws.length ≤ 9223372036854775800) (d : Nat) : ∀ (k i : Nat), ws.length - i = d → i ≤ ws.length → d + 1 ≤ k →
    ∃ b, fullerref18_Writes.l0 k ws n (i : Int) = some b ∧ (b = true → (∀ w ∈ ws.drop i, fewT w.f1.f0 w.f1.f1 = true) ∧ (ws.length : Int) ≤ n) := by
  induction d with
  | zero =>
    intro k i hdd hi hk
    obtain ⟨k, rfl⟩ : ∃ m, k = m + 1 := ⟨k - 1, by omega⟩
    simp only [fullerref18_Writes.l0]
    rw [if_neg (by omega), List.drop_eq_nil_of_le (by omega)]
    exact ⟨_, rfl, fun h => ⟨by simp, of_decide_eq_true h⟩⟩
  | succ d ih =>
    intro k i hdd hi hk
    obtain ⟨k, rfl⟩ : ∃ m, k = m + 1 := ⟨k - 1, by omega⟩
    have hlt : i < ws.length := by omega
    simp only [fullerref18_Writes.l0]
    rw [if_pos (by omega), if_pos (by omega), rdW hlt, few_f]
    simp only [Option.bind_some]
    cases c : fewT ws[i].f1.f0 ws[i].f1.f1 with
    | false => rw [if_neg (by simp)]; exact ⟨_, rfl, fun h => by cases h⟩
    | true =>
      rw [if_pos rfl, up1 (by omega)]
      obtain ⟨b, hb, hi2⟩ := ih k (i + 1) (by omega) (by omega) (by omega)
      refine ⟨b, hb, fun h => ⟨?_, (hi2 h).2⟩⟩
      rw [List.drop_eq_getElem_cons hlt]
      intro l hl2
      rcases List.mem_cons.mp hl2 with rfl | hl2
      · exact c
      · exact (hi2 h).1 l hl2
theorem wfew_f (ws : List S42) (n : Int) (hm : ws.length ≤ 9223372036854775800) (k : Nat) (hk : ws.length + 1 ≤ k) : ∃ b, fullerref18_Writes.f k ws n = some b ∧ (b = true → (∀ w ∈ ws, fewT w.f1.f0 w.f1.f1 = true) ∧ (ws.length : Int) ≤ n) := by
  unfold fullerref18_Writes.f
  have := wfew_l0 ws n hm ws.length k 0 (by omega) (by omega) hk
  rw [List.drop_zero] at this
  exact this
theorem in_l0 (l : List Int) (a : Int) (hm : l.length ≤ 9223372036854775800) (d : Nat) : ∀ (k i : Nat), l.length - i = d → i ≤ l.length → d + 1 ≤ k → fullerref10_In.l0 k l a (i : Int) = some (decide (a ∈ l.drop i)) := by
  induction d with
  | zero =>
    intro k i hdd hi hk
    obtain ⟨k, rfl⟩ : ∃ m, k = m + 1 := ⟨k - 1, by omega⟩
    simp only [fullerref10_In.l0]
    rw [if_neg (by omega), List.drop_eq_nil_of_le (by omega)]; simp
  | succ d ih =>
    intro k i hdd hi hk
    obtain ⟨k, rfl⟩ : ∃ m, k = m + 1 := ⟨k - 1, by omega⟩
    have hlt : i < l.length := by omega
    simp only [fullerref10_In.l0]
    rw [if_pos (by omega), if_pos (by omega), rd_at hlt, List.drop_eq_getElem_cons hlt]
    by_cases c : l[i] = a
    · rw [if_pos c]; simp [c]
    · rw [if_neg c, up1 (by omega), ih k (i + 1) (by omega) (by omega) (by omega)]
      congr 1
      refine decide_eq_decide.mpr ?_
      rw [List.mem_cons]
      exact ⟨fun h => .inr h, fun h => h.resolve_left fun e => c e.symm⟩
theorem in_f (l : List Int) (a : Int) (hm : l.length ≤ 1000) (k : Nat) (hk : l.length + 1 ≤ k) : fullerref10_In.f k l a = some (decide (a ∈ l)) := by
  unfold fullerref10_In.f
  have := in_l0 l a (by omega) l.length k 0 (by omega) (by omega) hk
  rw [List.drop_zero] at this
  exact this
theorem ssame_l0 (C : List (List S74)) (n n' : Int) (P P' : List Int) (hC : ∀ l ∈ C, l.length ≤ 40 ∧ ∀ v ∈ l, v.f1.f0.length ≤ 100 ∧ v.f1.f1.length ≤ 100) (hm : C.length ≤ 100) (d : Nat) : ∀ (k i : Nat), C.length - i = d → i ≤ C.length → d + 300 ≤ k → k ≤ 9223372036854775806 → fullerref18_Same.l0 k (i : Int) C n P C n' P' = some true := by
  induction d with
  | zero =>
    intro k i hdd hi hk _
    obtain ⟨k, rfl⟩ : ∃ m, k = m + 1 := ⟨k - 1, by omega⟩
    simp only [fullerref18_Same.l0]
    rw [if_neg (by omega)]
  | succ d ih =>
    intro k i hdd hi hk hk2
    obtain ⟨k, rfl⟩ : ∃ m, k = m + 1 := ⟨k - 1, by omega⟩
    have hlt : i < C.length := by omega
    have hl := hC _ (List.getElem_mem hlt)
    simp only [fullerref18_Same.l0]
    rw [if_pos (by omega), if_pos (by omega), if_pos (by omega), rdL_eq hlt, vsame_f _ 100 hl.2 k (by omega) (by omega)]
    simp only [Option.bind_some, if_true]
    rw [up1 (by omega), ih k (i + 1) (by omega) (by omega) (by omega) (by omega)]
theorem ssame_f (C : List (List S74)) (n : Int) (P : List Int) (hC : ∀ l ∈ C, l.length ≤ 40 ∧ ∀ v ∈ l, v.f1.f0.length ≤ 100 ∧ v.f1.f1.length ≤ 100) (hm : C.length ≤ 100) (hP : P.length ≤ 100) (k : Nat) (hk : 1000 ≤ k) (hk2 : k ≤ 9223372036854775806) : fullerref18_Same.f k C n P C n P = some true := by
  unfold fullerref18_Same.f
  rw [if_pos rfl, if_pos rfl, same_f P P (by omega) k (by omega)]
  simp only [Option.bind_some, decide_true, Bool.not_true]
  obtain ⟨k, rfl⟩ : ∃ m, k = m + 1 := ⟨k - 1, by omega⟩
  simp only [fullerref18_Same.j0]
  rw [if_neg (by simp)]
  exact ssame_l0 C n n P P hC hm C.length k 0 (by omega) (by omega) (by omega) (by omega)
theorem SOk.same {C : List (List S74)} {now : Int} {P : List Int} (h : SOk C now P) (k : Nat) (hk : 1000 ≤ k) (hk2 : k ≤ 9223372036854775806) : fullerref18_Same.f k C now P C now P = some true := by
  have h8 := h.c8
  have hp := h.pl
  refine ssame_f C now P (fun l hl => ⟨by have := h.len l hl; omega, fun v hv => by have := vchk_elem (h.vs l hl) hv; omega⟩) (by omega) (by omega) k hk hk2
end Go.Proofs.Ytmolbbebglfhmaa.Plain
