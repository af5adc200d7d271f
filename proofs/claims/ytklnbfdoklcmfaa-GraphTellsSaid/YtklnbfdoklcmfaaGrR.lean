/- What the document's functions of layer 10 answer, in plain words; no conditions. -/
import Derived.Test.YtklnbfdoklcmfaaGraphR
import Derived.Test.YtklnbfdoklcmfaaAx15
import Derived.Test.YtklnbfdoklcmfaaAx16
namespace Go.Proofs.Ytklnbfdoklcmfaa.Plain
open Go.RowKit Go.Proofs.Ytklnbfdoklcmfaa.A Go.Proofs.YtklnbfdoklcmfaaW.PrintWords Go.Proofs.YtklnbfdoklcmfaaW.PrintLast Go.Proofs.YtklnbfdoklcmfaaW.PrintMore
set_option linter.unusedVariables false
set_option linter.unusedSimpArgs false
theorem rinp_l0 (l : List S35) (hl : l.length ≤ 1000) (d : Nat) : ∀ (k i : Nat), l.length - i = d → i ≤ l.length → 2 * d + 2 ≤ k →
    fullerref10_Inputs.l0 k l true (i : Int) = some (inpF (l.drop i)) := by
  induction d with
  | zero =>
    intro k i hd hi hk
    obtain ⟨k, rfl⟩ : ∃ q, k = q + 1 + 1 := ⟨k - 2, by omega⟩
    rw [fullerref10_Inputs.l0, if_neg (by omega), fullerref10_Inputs.j1, if_neg (by decide), List.drop_eq_nil_of_le (by omega)]
    rfl
  | succ d ih =>
    intro k i hd hi hk
    obtain ⟨k, rfl⟩ : ∃ q, k = q + 1 + 1 := ⟨k - 2, by omega⟩
    have hil : i < l.length := by omega
    rw [fullerref10_Inputs.l0, if_pos (by omega), fullerref10_Inputs.j1, if_pos rfl, if_pos (by omega), if_pos (by omega), rdN hil, List.drop_eq_getElem_cons hil]
    by_cases h : l[i].f0 = 1
    · rw [if_pos h]
      simp [inpF, List.find?, h]
    · rw [if_neg h, w1n (x := i) (by omega), ih k (i + 1) (by omega) (by omega) (by omega)]
      have e : (l[i].f0 == 1) = false := beq_eq_false_iff_ne.mpr h
      simp [inpF, List.find?, e]
theorem rinputs_f (l : List S35) (k : Nat) (hk : 3200 ≤ k) : fullerref10_Inputs.f k l = some (if gchk l = true then inpF l else ([], false)) := by
  unfold fullerref10_Inputs.f
  rw [rgchk_f l k hk, Option.bind_some]
  cases hg : gchk l with
  | false =>
    obtain ⟨k, rfl⟩ : ∃ q, k = q + 1 + 1 := ⟨k - 2, by omega⟩
    rw [fullerref10_Inputs.l0]
    split <;> rw [fullerref10_Inputs.j1, if_neg (by decide)] <;> rfl
  | true =>
    have hG := gchk_iff.mp hg
    have := hG.le
    rw [if_pos rfl]
    exact rinp_l0 l (by omega) l.length k 0 (by omega) (by omega) (by omega)
theorem rprm_l1 (l : List S35) (hG : GOk l) (acc : List Int) (p : Int) (M : Nat) (R1 R2 : Option (List Int)) (ha : acc.length ≤ 100)
    (h1 : ∀ k, M ≤ k → fullerref10_Params.l0 k l true (acc ++ [p]) (wrap64 (p + 1)) = R1) (h2 : ∀ k, M ≤ k → fullerref10_Params.l0 k l true acc (wrap64 (p + 1)) = R2) (d : Nat) : ∀ (k i : Nat) (b : Bool), l.length - i = d → i ≤ l.length → M + d + 1 ≤ k →
    fullerref10_Params.l1 k l true acc p b (i : Int) = if (b || hasP p (l.drop i)) = true then R1 else R2 := by
  have hl := hG.le
  induction d with
  | zero =>
    intro k i b hd hi hk
    obtain ⟨k, rfl⟩ : ∃ q, k = q + 1 := ⟨k - 1, by omega⟩
    rw [fullerref10_Params.l1, if_neg (by omega), List.drop_eq_nil_of_le (by omega)]
    cases b with
    | true => rw [if_pos rfl, if_pos (by omega), h1 k (by omega)]; rfl
    | false => rw [if_neg (by decide), h2 k (by omega)]; rfl
  | succ d ih =>
    intro k i b hd hi hk
    obtain ⟨k, rfl⟩ : ∃ q, k = q + 1 := ⟨k - 1, by omega⟩
    have hil : i < l.length := by omega
    have hW := hG.node i l[i] (List.getElem?_eq_getElem hil)
    rw [fullerref10_Params.l1, if_pos (by omega), w1n (x := i) (by omega), List.drop_eq_getElem_cons hil]
    cases b with
    | true =>
      rw [if_pos rfl, ih k (i + 1) true (by omega) (by omega) (by omega)]
      simp
    | false =>
      rw [if_neg (by decide), if_pos (by omega), rdN hil]
      by_cases c : l[i].f0 = 2
      · obtain ⟨p1, _, _⟩ := prm_node hW c
        rw [if_pos c, if_pos (by omega), ih k (i + 1) _ (by omega) (by omega) (by omega), Bool.false_or, hasP_cons, decide_eq_true c, Bool.true_and]
      · rw [if_neg c, ih k (i + 1) _ (by omega) (by omega) (by omega), Bool.false_or, Bool.false_or, hasP_cons, decide_eq_false c, Bool.false_and, Bool.false_or]
def prmR (l : List S35) : Nat → List Int
  | 0 => []
  | d + 1 => if hasP (7 - (d : Int)) l = true then (7 - (d : Int)) :: prmR l d else prmR l d
theorem rprm_l0 (l : List S35) (hG : GOk l) : ∀ (d : Nat) (k : Nat) (acc : List Int), d ≤ 8 → acc.length + d ≤ 8 → d * (l.length + 10) + 5 ≤ k →
    fullerref10_Params.l0 k l true acc (8 - (d : Int)) = some (acc ++ prmR l d)
  | 0, k, acc, hd, ha, hk => by
    obtain ⟨k, rfl⟩ : ∃ q, k = q + 1 + 1 := ⟨k - 2, by omega⟩
    rw [fullerref10_Params.l0, if_neg (by decide), fullerref10_Params.j1, if_neg (by decide)]
    simp [prmR]
  | d + 1, k, acc, hd, ha, hk => by
    have hl := hG.le
    obtain ⟨k, rfl⟩ : ∃ q, k = q + 1 + 1 := ⟨k - 2, by omega⟩
    have e : (8 : Int) - ((d + 1 : Nat) : Int) = 7 - (d : Int) := by omega
    have ew : wrap64 (7 - (d : Int) + 1) = 8 - (d : Int) := by rw [w64 (by omega) (by omega)]; omega
    have hM : d * (l.length + 10) + 5 + l.length + 1 ≤ k := by
      have : (d + 1) * (l.length + 10) = d * (l.length + 10) + (l.length + 10) := Nat.succ_mul _ _
      omega
    rw [e, fullerref10_Params.l0, if_pos (by omega), fullerref10_Params.j1, if_pos rfl]
    have := rprm_l1 l hG acc (7 - (d : Int)) (d * (l.length + 10) + 5) (some (acc ++ [7 - (d : Int)] ++ prmR l d)) (some (acc ++ prmR l d)) (by omega)
      (fun k hk => by rw [ew]; exact rprm_l0 l hG d k _ (by omega) (by simp; omega) hk) (fun k hk => by rw [ew]; exact rprm_l0 l hG d k _ (by omega) (by omega) hk) l.length k 0 false (by omega) (by omega) hM
    rw [show ((0 : Nat) : Int) = 0 from rfl] at this
    rw [this, List.drop_zero, Bool.false_or, prmR]
    split
    · rw [List.append_assoc]; rfl
    · rfl
theorem prmR_spec (l : List S35) : ∀ d : Nat, d ≤ 8 → (prmR l d).Pairwise (· < ·) ∧ ∀ x, x ∈ prmR l d ↔ (8 - (d : Int) ≤ x ∧ x < 8 ∧ x ∈ nms l)
  | 0, _ => by
    refine ⟨List.Pairwise.nil, fun x => ?_⟩
    simp only [prmR, List.not_mem_nil, false_iff]
    omega
  | d + 1, hd => by
    obtain ⟨h1, h2⟩ := prmR_spec l d (by omega)
    unfold prmR
    by_cases c : hasP (7 - (d : Int)) l = true
    · rw [if_pos c]
      refine ⟨List.pairwise_cons.2 ⟨fun y hy => by have := (h2 y).mp hy; omega, h1⟩, fun x => ?_⟩
      rw [List.mem_cons, h2]
      constructor
      · rintro (rfl | ⟨a, b, c'⟩)
        · exact ⟨by omega, by omega, hasP_iff.mp c⟩
        · exact ⟨by omega, b, c'⟩
      · rintro ⟨a, b, c'⟩
        by_cases e : x = 7 - (d : Int)
        · exact .inl e
        · exact .inr ⟨by omega, b, c'⟩
    · rw [if_neg c]
      refine ⟨h1, fun x => ?_⟩
      rw [h2]
      constructor
      · rintro ⟨a, b, c'⟩; exact ⟨by omega, b, c'⟩
      · rintro ⟨a, b, c'⟩
        refine ⟨?_, b, c'⟩
        have : x ≠ 7 - (d : Int) := fun e => c (hasP_iff.mpr (e ▸ c'))
        omega
theorem rparams_f (l : List S35) (k : Nat) (hk : 3200 ≤ k) : fullerref10_Params.f k l = some (if gchk l = true then prmF l else []) := by
  unfold fullerref10_Params.f
  rw [rgchk_f l k hk, Option.bind_some]
  cases hg : gchk l with
  | false =>
    obtain ⟨k, rfl⟩ : ∃ q, k = q + 1 + 1 := ⟨k - 2, by omega⟩
    rw [fullerref10_Params.l0, if_pos (by decide), fullerref10_Params.j1, if_neg (by decide)]
    rfl
  | true =>
    have hG := gchk_iff.mp hg
    have := hG.le
    rw [if_pos rfl]
    have h := rprm_l0 l hG 8 k [] (by omega) (by simp) (by omega)
    rw [show (8 : Int) - ((8 : Nat) : Int) = 0 from rfl] at h
    rw [h, List.nil_append]
    congr 1
    obtain ⟨s1, s2⟩ := prmR_spec l 8 (by omega)
    obtain ⟨t1, t2⟩ := prmF_spec l
    refine strict_eq s1 t1 (fun x => ?_)
    rw [s2, t2]
    constructor
    · rintro ⟨_, _, h⟩; exact h
    · intro h; have := nms_rng hG h; exact ⟨by omega, by omega, h⟩
/-! ### who uses a node -/
theorem ruse_l0 (l : List S35) (node : Int) (hll : l.length ≤ 1000) (ha : ∀ n ∈ l, n.f1.length ≤ 30) (d : Nat) : ∀ (k i : Nat) (acc : List Int), l.length - i = d → i ≤ l.length → acc.length + 30 * d ≤ 100000 → 40 * d + 2 ≤ k →
    fullerref10_Uses.l0 k l node true acc (i : Int) = some (acc ++ useG node i (l.drop i)) := by
  induction d with
  | zero =>
    intro k i acc hd hi hb hk
    obtain ⟨k, rfl⟩ : ∃ q, k = q + 1 + 1 := ⟨k - 2, by omega⟩
    rw [fullerref10_Uses.l0, if_neg (by omega), fullerref10_Uses.j1, if_neg (by decide), List.drop_eq_nil_of_le (by omega)]
    simp [useG]
  | succ d ih =>
    intro k i acc hd hi hb hk
    obtain ⟨k, rfl⟩ : ∃ q, k = q + 1 + 1 := ⟨k - 2, by omega⟩
    have hil : i < l.length := by omega
    have h30 := ha l[i] (List.getElem_mem hil)
    rw [fullerref10_Uses.l0, if_pos (by omega), fullerref10_Uses.j1, if_pos rfl, List.drop_eq_getElem_cons hil]
    have key : ∀ (d' : Nat) (k j : Nat) (ac : List Int), l[i].f1.length - j = d' → j ≤ l[i].f1.length → ac.length + d' ≤ acc.length + 30 → 40 * d + 2 + d' + 1 ≤ k →
        fullerref10_Uses.l1 k l node true ac (i : Int) (j : Int) = some (ac ++ (((l[i].f1.drop j).filter fun b => b == node).map fun _ => (i : Int)) ++ useG node ((i + 1 : Nat) : Int) (l.drop (i + 1))) := by
      intro d'
      induction d' with
      | zero =>
        intro k j ac hd' hj hac hk'
        obtain ⟨k, rfl⟩ : ∃ q, k = q + 1 := ⟨k - 1, by omega⟩
        rw [fullerref10_Uses.l1, if_pos (by omega), if_pos (by omega), rdN hil, if_neg (by omega), show l[i].f1.drop j = [] from List.drop_eq_nil_of_le (by omega), w1n (x := i) (by omega), ih k (i + 1) ac (by omega) (by omega) (by omega) (by omega)]
        simp
      | succ d' ih' =>
        intro k j ac hd' hj hac hk'
        obtain ⟨k, rfl⟩ : ∃ q, k = q + 1 := ⟨k - 1, by omega⟩
        have hjl : j < l[i].f1.length := by omega
        rw [fullerref10_Uses.l1, if_pos (by omega), if_pos (by omega), rdN hil, if_pos (by omega), if_pos (by omega), rd_lt hjl, List.drop_eq_getElem_cons hjl, w1n (x := j) (by omega)]
        by_cases h : l[i].f1[j] = node
        · rw [if_pos h, if_pos (by omega), ih' k (j + 1) _ (by omega) (by omega) (by simp; omega) (by omega), List.filter_cons_of_pos (by simpa using h)]
          simp
        · rw [if_neg h, ih' k (j + 1) _ (by omega) (by omega) (by omega) (by omega), List.filter_cons_of_neg (by simpa using h)]
    have := key l[i].f1.length k 0 acc (by omega) (by omega) (by omega) (by omega)
    rw [show ((0 : Nat) : Int) = 0 from rfl] at this
    rw [this, List.drop_zero, useG, List.append_assoc, show ((i : Int) + 1) = ((i + 1 : Nat) : Int) by omega]
theorem ruses_f (l : List S35) (node : Int) (k : Nat) (hk : 3200 ≤ k) : fullerref10_Uses.f k l node = some (if gchk l = true then useG node 0 l else []) := by
  unfold fullerref10_Uses.f
  rw [rgchk_f l k hk, Option.bind_some]
  cases hg : gchk l with
  | false =>
    obtain ⟨k, rfl⟩ : ∃ q, k = q + 1 + 1 := ⟨k - 2, by omega⟩
    rw [fullerref10_Uses.l0]
    split <;> rw [fullerref10_Uses.j1, if_neg (by decide)] <;> rfl
  | true =>
    have hG := gchk_iff.mp hg
    have := hG.le
    rw [if_pos rfl]
    exact ruse_l0 l node (by omega) (fun n hn => by obtain ⟨j, hj, hjn, hW⟩ := hG.mem hn; have := node_len hW; omega) l.length k 0 [] (by omega) (by omega) (by simp; omega) (by omega)
/-! ### live nodes -/
theorem rlive_l1 (l : List S35) (S : List Int) (hl : l.length ≤ 24) (hS : S.length ≤ 1000) (d : Nat) : ∀ (k i : Nat) (acc : List Int), l.length - i = d → i ≤ l.length → acc.length ≤ i → d + 1002 ≤ k →
    fullerref10_Live.l1 k l S acc (i : Int) = some (acc ++ ((upto l.length).drop i).filter fun x => decide (x ∈ S)) := by
  have hlen : (upto l.length).length = l.length := by simp [upto]
  induction d with
  | zero =>
    intro k i acc hd hi ha hk
    obtain ⟨k, rfl⟩ : ∃ q, k = q + 1 := ⟨k - 1, by omega⟩
    rw [fullerref10_Live.l1, if_neg (by omega), List.drop_eq_nil_of_le (by omega)]
    simp
  | succ d ih =>
    intro k i acc hd hi ha hk
    obtain ⟨k, rfl⟩ : ∃ q, k = q + 1 := ⟨k - 1, by omega⟩
    have hil : i < (upto l.length).length := by omega
    have hx : (upto l.length)[i] = (i : Int) := by simp [upto]
    rw [fullerref10_Live.l1, if_pos (by omega), in_f S _ (by omega) k (by omega), Option.bind_some, List.drop_eq_getElem_cons hil, hx]
    by_cases c : (i : Int) ∈ S
    · rw [if_pos (decide_eq_true c), if_pos (by omega), w1n (x := i) (by omega), ih k (i + 1) _ (by omega) (by omega) (by simp; omega) (by omega)]
      have := decide_eq_true c
      simp only [List.filter, this, List.append_assoc, List.cons_append, List.nil_append]
    · rw [if_neg (by simpa using c), w1n (x := i) (by omega), ih k (i + 1) _ (by omega) (by omega) (by omega) (by omega)]
      have := decide_eq_false c
      simp only [List.filter, this]
theorem lvS_len {l : List S35} (ha : ∀ n ∈ l, n.f1.length ≤ 2) : ∀ (m : Nat) (S : List Int), m ≤ l.length → (lvS l m S).length ≤ S.length + 2 * m
  | 0, S, _ => by simp [lvS]
  | m + 1, S, hm => by
    unfold lvS
    split
    · have h2 := ha l[m] (List.getElem_mem (by omega))
      have := lvS_len ha m (S ++ (rd_T35 l (m : Int)).f1) (by omega)
      rw [List.length_append, rdN (show m < l.length by omega)] at this
      rw [rdN (show m < l.length by omega)]
      omega
    · have := lvS_len ha m S (by omega)
      omega
theorem rlive_l0 (l : List S35) (hl : l.length ≤ 24) (ha : ∀ n ∈ l, n.f1.length ≤ 2) : ∀ (m : Nat) (k : Nat) (S : List Int), m ≤ l.length → S.length + 2 * m ≤ 100 → m + 1100 ≤ k →
    fullerref10_Live.l0 k l S ((m : Int) - 1) = some ((upto l.length).filter fun x => decide (x ∈ lvS l m S))
  | 0, k, S, hm, hS, hk => by
    obtain ⟨k, rfl⟩ : ∃ q, k = q + 1 := ⟨k - 1, by omega⟩
    rw [fullerref10_Live.l0, if_neg (by decide)]
    have := rlive_l1 l S hl (by omega) l.length k 0 [] (by omega) (by omega) (by simp) (by omega)
    rw [show ((0 : Nat) : Int) = 0 from rfl, List.drop_zero, List.nil_append] at this
    exact this
  | m + 1, k, S, hm, hS, hk => by
    obtain ⟨k, rfl⟩ : ∃ q, k = q + 1 := ⟨k - 1, by omega⟩
    have hml : m < l.length := by omega
    have e : ((m + 1 : Nat) : Int) - 1 = (m : Int) := by omega
    have ew : wrap64 ((m : Int) - 1) = (m : Int) - 1 := w64 (by omega) (by omega)
    have h2 := ha l[m] (List.getElem_mem hml)
    rw [e, fullerref10_Live.l0, if_pos (by omega), in_f S _ (by omega) k (by omega), Option.bind_some, ew, lvS]
    clear ew
    by_cases c : (m : Int) ∈ S
    · rw [if_pos (decide_eq_true c), if_pos (by omega), if_pos (by omega), rdN hml, if_pos (by omega), rlive_l0 l hl ha m k _ (by omega) (by rw [List.length_append]; omega) (by omega), if_pos c]
    · rw [if_neg (by simpa using c), rlive_l0 l hl ha m k _ (by omega) (by omega) (by omega), if_neg c]
theorem rlive_f (l : List S35) (k : Nat) (hk : 3200 ≤ k) : fullerref10_Live.f k l = some (if gchk l = true then liveF l else []) := by
  unfold fullerref10_Live.f
  rw [rgchk_f l k hk, Option.bind_some]
  cases hg : gchk l with
  | false => rfl
  | true =>
    have hG := gchk_iff.mp hg
    have h24 := hG.le
    rw [if_pos rfl, if_pos rfl, show wrap64 ((l.length : Int) - 1) = (l.length : Int) - 1 from w64 (by omega) (by omega), rlive_l0 l h24 (fun n hn => by obtain ⟨j, hj, hjn, hW⟩ := hG.mem hn; exact (node_len hW).2.2.1) l.length k _ (Nat.le_refl _) (by simp; omega) (by omega)]
    congr 1
    exact (lvGo_eq hG.args l.length _ (Nat.le_refl _)).symm
end Go.Proofs.Ytklnbfdoklcmfaa.Plain
