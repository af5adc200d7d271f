/- GraphNames, loop by loop, in plain words; no conditions. -/
import Derived.Test.YtklnbfdoklcmfaaGrB
import Derived.Test.YtklnbfdoklcmfaaAx20
namespace Go.Proofs.Ytklnbfdoklcmfaa.Plain
open Go.RowKit Go.Proofs.Ytklnbfdoklcmfaa.A Go.Proofs.YtklnbfdoklcmfaaW.PrintWords Go.Proofs.YtklnbfdoklcmfaaW.PrintLast Go.Proofs.YtklnbfdoklcmfaaW.PrintMore
set_option linter.unusedVariables false
set_option linter.unusedSimpArgs false
theorem names_l2 (l : List S35) (hG : GOk l) (b6 : Bool) (x7 : Int) (i : Nat) (hi : i < (prmF l).length) (M : Nat) (hn : ∀ k, M ≤ k → fullerlaw10_GraphNames.l1 k l true (prmF l) b6 x7 (wrap64 ((i : Int) + 1)) = some true) (d : Nat) : ∀ (k j : Nat) (b : Bool), l.length - j = d → j ≤ l.length → (b || hasP (prmF l)[i] (l.drop j)) = true → M + d + 1 ≤ k →
    fullerlaw10_GraphNames.l2 k l true (prmF l) b6 x7 (i : Int) b (j : Int) = some true := by
  have h24 := hG.le
  have hpl := prmF_len l
  induction d with
  | zero =>
    intro k j b hd hj hb hk
    obtain ⟨k, rfl⟩ : ∃ q, k = q + 1 := ⟨k - 1, by omega⟩
    rw [List.drop_eq_nil_of_le (by omega)] at hb
    have hb' : b = true := by simpa [hasP] using hb
    subst hb'
    rw [fullerlaw10_GraphNames.l2, if_neg (by omega), if_pos rfl]
    by_cases h0 : (i : Int) > 0
    · obtain ⟨q, rfl⟩ : ∃ q, i = q + 1 := ⟨i - 1, by omega⟩
      have e : wrap64 (((q + 1 : Nat) : Int) - 1) = (q : Int) := by rw [w64 (by omega) (by omega)]; omega
      rw [if_pos h0, if_pos (by omega), if_pos (by omega), e]
      clear e
      have hp := List.pairwise_iff_getElem.mp (prmF_spec l).1 q (q + 1) (by omega) hi (by omega)
      rw [if_pos (by omega), if_pos (by omega), rd_lt hi, rd_lt (show q < (prmF l).length by omega), if_neg (by omega), hn k (by omega)]
    · rw [if_neg h0, hn k (by omega)]
  | succ d ih =>
    intro k j b hd hj hb hk
    obtain ⟨k, rfl⟩ : ∃ q, k = q + 1 := ⟨k - 1, by omega⟩
    have hjl : j < l.length := by omega
    have hW := hG.node j l[j] (List.getElem?_eq_getElem hjl)
    rw [List.drop_eq_getElem_cons hjl, hasP_cons] at hb
    rw [fullerlaw10_GraphNames.l2, if_pos (by omega), w1n (x := j) (by omega)]
    cases b with
    | true => rw [if_pos rfl, ih k (j + 1) true (by omega) (by omega) (by simp) (by omega)]
    | false =>
      rw [if_neg (by decide), if_pos (by omega), rdN hjl]
      by_cases c : l[j].f0 = 2
      · obtain ⟨p1, _, _⟩ := prm_node hW c
        rw [decide_eq_true c] at hb
        rw [if_pos c, if_pos (by omega), if_pos (by omega), if_pos (by omega), rd_lt hi]
        exact ih k (j + 1) _ (by omega) (by omega) (by simpa using hb) (by omega)
      · rw [decide_eq_false c] at hb
        rw [if_neg c]
        exact ih k (j + 1) _ (by omega) (by omega) (by simpa using hb) (by omega)
theorem names_l1 (l : List S35) (hG : GOk l) (b6 : Bool) (x7 : Int) (hx : b6 = decide (x7 > 0)) (d : Nat) : ∀ (k i : Nat), (prmF l).length - i = d → i ≤ (prmF l).length → 40 * d + 1 ≤ k →
    fullerlaw10_GraphNames.l1 k l true (prmF l) b6 x7 (i : Int) = some true := by
  have h24 := hG.le
  have hpl := prmF_len l
  induction d with
  | zero =>
    intro k i hd hi hk
    obtain ⟨k, rfl⟩ : ∃ q, k = q + 1 := ⟨k - 1, by omega⟩
    rw [fullerlaw10_GraphNames.l1, if_neg (by omega), if_pos rfl, hx, beq_self_eq_true]
  | succ d ih =>
    intro k i hd hi hk
    obtain ⟨k, rfl⟩ : ∃ q, k = q + 1 := ⟨k - 1, by omega⟩
    have hil : i < (prmF l).length := by omega
    rw [fullerlaw10_GraphNames.l1, if_pos (by omega)]
    have := names_l2 l hG b6 x7 i hil (40 * d + 1) (fun k hk => by rw [w1n (x := i) (by omega)]; exact ih k (i + 1) (by omega) (by omega) hk) l.length k 0 false (by omega) (by omega) ?_ (by omega)
    · exact this
    · rw [List.drop_zero, Bool.false_or, hasP_iff]
      exact ((prmF_spec l).2 _).mp (List.getElem_mem hil)
theorem names_j2 (l : List S35) (hG : GOk l) (i : Nat) (hil : i < l.length) (c : Nat) (hci : c ≤ i) (k M : Nat) (hk : M + 1 ≤ k)
    (hn : ∀ k, M ≤ k → ∀ c' : Nat, c' = c + (if l[i].f0 = 1 then 1 else 0) → fullerlaw10_GraphNames.l0 k l true (prmF l) (inpF l).1 (inpF l).2 (c' : Int) ((i + 1 : Nat) : Int) = some true) :
    fullerlaw10_GraphNames.j2 k l true (prmF l) (inpF l).1 (inpF l).2 (c : Int) (i : Int) false = some true := by
  have h24 := hG.le
  obtain ⟨k, rfl⟩ : ∃ q, k = q + 1 := ⟨k - 1, by omega⟩
  obtain ⟨kd, k1, k2, _, _⟩ := nodeW_iff.mp (hG.node i l[i] (List.getElem?_eq_getElem hil))
  have ea : graph_Arity.f l[i].f0 = some ((l[i].f1.length : Int)) := by
    unfold graph_Arity.f aritV
    rw [k1, k2]
  rw [fullerlaw10_GraphNames.j2, if_neg (by decide), if_pos (by omega), if_pos (by omega), rdN hil, ea, Option.bind_some, Option.bind_some, if_pos rfl, if_pos rfl, w1n (x := i) (by omega), w1n (x := c) (by omega)]
  by_cases c1 : l[i].f0 = 1
  · rw [if_pos c1]
    exact hn k (by omega) (c + 1) (by rw [if_pos c1])
  · rw [if_neg c1]
    exact hn k (by omega) c (by rw [if_neg c1]; rfl)
theorem names_l0 (l : List S35) (hG : GOk l) (d : Nat) : ∀ (k i c : Nat), l.length - i = d → i ≤ l.length → c ≤ i → 20 * d + 1200 ≤ k → (inpF l).2 = decide (0 < c + (l.drop i).countP fun n => n.f0 == 1) →
    fullerlaw10_GraphNames.l0 k l true (prmF l) (inpF l).1 (inpF l).2 (c : Int) (i : Int) = some true := by
  have h24 := hG.le
  have hpl := prmF_len l
  have hil2 := inpF_len hG
  induction d with
  | zero =>
    intro k i c hd hi hci hk hc
    obtain ⟨k, rfl⟩ : ∃ q, k = q + 1 := ⟨k - 1, by omega⟩
    rw [List.drop_eq_nil_of_le (by omega)] at hc
    rw [fullerlaw10_GraphNames.l0, if_neg (by omega)]
    exact names_l1 l hG _ _ (by rw [hc]; exact decide_eq_decide.mpr (by simp only [List.countP_nil]; omega)) (prmF l).length k 0 (by omega) (by omega) (by omega)
  | succ d ih =>
    intro k i c hd hi hci hk hc
    obtain ⟨k, rfl⟩ : ∃ q, k = q + 1 := ⟨k - 1, by omega⟩
    have hil : i < l.length := by omega
    have hW := hG.node i l[i] (List.getElem?_eq_getElem hil)
    have hmem : l[i] ∈ l := List.getElem_mem hil
    rw [List.drop_eq_getElem_cons hil, List.countP_cons] at hc
    have fin := names_j2 l hG i hil c hci k (20 * d + 1200) (by omega) (fun k hk c' hc' => ih k (i + 1) c' (by omega) (by omega) (by rw [hc']; split <;> omega) hk (by
      rw [hc, hc']
      refine decide_eq_decide.mpr ?_
      by_cases c1 : l[i].f0 = 1
      · have : (l[i].f0 == 1) = true := beq_iff_eq.mpr c1
        rw [if_pos c1, if_pos this]
        omega
      · have : ¬ (l[i].f0 == 1) = true := fun h => c1 (beq_iff_eq.mp h)
        rw [if_neg c1, if_neg this]
        omega))
    rw [fullerlaw10_GraphNames.l0, if_pos (by omega), if_pos (by omega), rdN hil]
    by_cases c2 : l[i].f0 = 2
    · obtain ⟨p1, _, _⟩ := prm_node hW c2
      have hin : rd l[i].f2 0 ∈ prmF l := ((prmF_spec l).2 _).mpr (nms_mem.mpr ⟨_, hmem, c2, rfl⟩)
      rw [if_pos c2, if_pos (by omega), in_f _ _ (by omega) k (by omega), Option.bind_some, if_pos (decide_eq_true hin), if_neg (by omega)]
      exact fin
    · rw [if_neg c2]
      by_cases c1 : l[i].f0 = 1
      · have hb : (inpF l).2 = true := by
          rw [hc]
          refine decide_eq_true ?_
          have : (l[i].f0 == 1) = true := beq_iff_eq.mpr c1
          rw [if_pos this]
          omega
        have hs : (inpF l).1 = l[i].f2 := by
          have hb2 := hb
          unfold inpF at hb2 ⊢
          cases h : l.find? (fun n => n.f0 == 1) with
          | none => rw [h] at hb2; cases hb2
          | some n =>
            have hn1 : n.f0 = 1 := by simpa using List.find?_some (p := fun n : S35 => n.f0 == 1) h
            exact hG.like n (List.mem_of_find?_eq_some h) l[i] hmem (-1) (by unfold gkey; rw [if_pos hn1]) (by unfold gkey; rw [if_pos c1])
        rw [if_pos c1, hb, if_pos rfl, hs, same_f _ _ (by rw [← hs]; omega) k (by rw [← hs]; omega), Option.bind_some, decide_eq_true rfl]
        rw [hs, hb] at fin
        exact fin
      · rw [if_neg c1]
        exact fin
end Go.Proofs.Ytklnbfdoklcmfaa.Plain
