/- What the functions of layer 10 answer, in plain words; no conditions. -/
import Derived.Test.YtklnbfdoklcmfaaGraphA
import Derived.Test.YtklnbfdoklcmfaaAx2
import Derived.Test.YtklnbfdoklcmfaaAx10
import Derived.Test.YtklnbfdoklcmfaaAx11
import Derived.Test.YtklnbfdoklcmfaaAx16
namespace Go.Proofs.Ytklnbfdoklcmfaa.Plain
open Go.RowKit Go.Proofs.Ytklnbfdoklcmfaa.A Go.Proofs.YtklnbfdoklcmfaaW.PrintWords Go.Proofs.YtklnbfdoklcmfaaW.PrintLast Go.Proofs.YtklnbfdoklcmfaaW.PrintMore
set_option linter.unusedVariables false
set_option linter.unusedSimpArgs false
theorem w1n {x : Nat} (h : x < 1000000) : wrap64 ((x : Int) + 1) = ((x + 1 : Nat) : Int) := by rw [w64 (by omega) (by omega)]; omega
/-- The parameter that a node names. -/
def nm (n : S35) : Option Int := if n.f0 = 2 then some (rd n.f2 0) else none
def nms (l : List S35) : List Int := l.filterMap nm
def prmF (l : List S35) : List Int := cmpL none (sortI (nms l))
/-- The nodes that use a node. -/
def useG (node : Int) : Int → List S35 → List Int
  | _, [] => []
  | i, n :: r => (n.f1.filter fun a => a == node).map (fun _ => i) ++ useG node (i + 1) r
def inpF (l : List S35) : List Int × Bool := match l.find? (fun n => n.f0 == 1) with
  | some n => (n.f2, true)
  | none => ([], false)
def liveF (l : List S35) : List Int := (lvGo l l.length [(l.length : Int) - 1]).reverse
theorem live_f (l : List S35) : graph_Live.f l = some (if gchk l = true then liveF l else []) := rfl
theorem prm_node {i : Int} {n : S35} (h : nodeW i n = true) (h2 : n.f0 = 2) : 0 < n.f2.length ∧ 0 ≤ rd n.f2 0 ∧ rd n.f2 0 < 8 := by
  obtain ⟨kd, hk, _, hn, _⟩ := nodeW_iff.mp h
  rw [h2] at hk
  have e : gkind 2 = some (0, -2) := by decide
  rw [e] at hk
  injection hk with hk
  rw [← hk] at hn
  unfold numsB at hn
  rw [if_pos rfl] at hn
  simp only [Bool.and_eq_true, decide_eq_true_eq] at hn
  exact ⟨hn.1.1.1, hn.1.1.2, hn.1.2⟩
/-! ### the first node that is what is given -/
theorem idx_find (q : S35 → Bool) : ∀ (l : List S35) (i : Nat), (l.find? q = none ∧ idxF q i l = -1) ∨ ∃ (m : Nat) (n : S35), l.find? q = some n ∧ idxF q i l = ((i + m : Nat) : Int) ∧ l[m]? = some n
  | [], i => .inl ⟨rfl, rfl⟩
  | x :: r, i => by
    cases h : q x with
    | true => exact .inr ⟨0, x, by simp [List.find?, h], by simp [idxF, h], rfl⟩
    | false =>
      rcases idx_find q r (i + 1) with ⟨e1, e2⟩ | ⟨m, n, e1, e2, e3⟩
      · exact .inl ⟨by simp [List.find?, h, e1], by simp [idxF, h, e2]⟩
      · exact .inr ⟨m + 1, n, by simp [List.find?, h, e1], by simp only [idxF, h, Bool.false_eq_true, if_false, e2]; congr 1; omega, by simpa using e3⟩
theorem inputs_f (l : List S35) : graph_Inputs.f l = some (if gchk l = true then inpF l else ([], false)) := by
  unfold graph_Inputs.f inpF
  have hd := idx_find (fun n => n.f0 == 1) l 0
  have e : inpAt l = idxF (fun n => n.f0 == 1) 0 l := rfl
  rw [← e] at hd
  rcases hd with ⟨h1, h2⟩ | ⟨m, n, h1, h2, h3⟩
  · rw [h1, h2, if_pos (by decide)]
    cases gchk l <;> rfl
  · rw [h1, h2, if_neg (by omega), Nat.zero_add]
    cases hg : gchk l with
    | false => rfl
    | true =>
      rw [if_pos rfl, if_pos rfl]
      obtain ⟨hm, hn⟩ := List.getElem?_eq_some_iff.mp h3
      rw [rdN hm, hn]
      have := node_len ((gchk_iff.mp hg).node m n h3)
      unfold slices_Clone_int_int.f
      rw [if_pos (by omega)]
      rfl
/-! ### parameters -/
theorem prm_l0 (l : List S35) (hG : GOk l) (d : Nat) : ∀ (k i : Nat) (acc : List Int), l.length - i = d → i ≤ l.length → acc.length ≤ i → d + 1 ≤ k →
    graph_Params.l0 k acc l (l.length : Int) (i : Int) = some (cmpL none (sortI (acc ++ nms (l.drop i)))) := by
  have hl := hG.le
  induction d with
  | zero =>
    intro k i acc hd hi ha hk
    obtain ⟨k, rfl⟩ : ∃ q, k = q + 1 := ⟨k - 1, by omega⟩
    have hn : nms (l.drop i) = [] := by rw [List.drop_eq_nil_of_le (by omega)]; rfl
    rw [graph_Params.l0, if_neg (by omega), hn, List.append_nil]
    unfold slices_Sort_int_int.f slices_Compact_int_int.f
    rw [if_pos (by omega)]
    rfl
  | succ d ih =>
    intro k i acc hd hi ha hk
    obtain ⟨k, rfl⟩ : ∃ q, k = q + 1 := ⟨k - 1, by omega⟩
    have hil : i < l.length := by omega
    have hW := hG.node i l[i] (List.getElem?_eq_getElem hil)
    have hdr : nms (l.drop i) = (match nm l[i] with | some a => [a] | none => []) ++ nms (l.drop (i + 1)) := by
      rw [List.drop_eq_getElem_cons hil]
      unfold nms
      rw [List.filterMap_cons]
      cases nm l[i] <;> rfl
    rw [graph_Params.l0, if_pos (by omega), if_pos (by omega), if_pos (by omega), rdN hil, w1n (x := i) (by omega), hdr]
    unfold graph_name.f nm
    by_cases h1 : l[i].f0 = 1
    · rw [if_pos h1, if_neg (show ¬ l[i].f0 = 2 by omega)]
      simp only [Option.bind_some, if_true]
      rw [if_neg (by decide)]
      exact ih k (i + 1) acc (by omega) (by omega) (by omega) (by omega)
    · rw [if_neg h1]
      by_cases h2 : l[i].f0 = 2
      · obtain ⟨p1, p2, p3⟩ := prm_node hW h2
        rw [if_pos h2, if_pos (by omega), if_pos h2]
        simp only [Option.bind_some, if_true]
        rw [if_pos p2, if_pos (by omega), ih k (i + 1) _ (by omega) (by omega) (by simp; omega) (by omega), List.append_assoc]
      · rw [if_neg h2, if_neg h2]
        simp only [Option.bind_some, Bool.false_eq_true, if_false]
        exact ih k (i + 1) acc (by omega) (by omega) (by omega) (by omega)
theorem params_f (l : List S35) (k : Nat) (hk : 30 ≤ k) : graph_Params.f k l = some (if gchk l = true then prmF l else []) := by
  unfold graph_Params.f graph_Check.f
  rw [Option.bind_some]
  cases hg : gchk l with
  | false => rfl
  | true =>
    have hG := gchk_iff.mp hg
    have := hG.le
    rw [if_pos rfl, if_pos rfl]
    exact prm_l0 l hG l.length k 0 [] (by omega) (by omega) (by simp) (by omega)
/-! ### who uses a node -/
theorem use_l0 (l : List S35) (node : Int) (hll : l.length ≤ 1000) (ha : ∀ n ∈ l, n.f1.length ≤ 30) (d : Nat) : ∀ (k i : Nat) (acc : List Int), l.length - i = d → i ≤ l.length → acc.length + 30 * d ≤ 100000 → 40 * d + 1 ≤ k →
    graph_Uses.l0 k node acc l (l.length : Int) (i : Int) = some (acc ++ useG node i (l.drop i)) := by
  induction d with
  | zero =>
    intro k i acc hd hi hb hk
    obtain ⟨k, rfl⟩ : ∃ q, k = q + 1 := ⟨k - 1, by omega⟩
    rw [graph_Uses.l0, if_neg (by omega), List.drop_eq_nil_of_le (by omega)]
    simp [useG]
  | succ d ih =>
    intro k i acc hd hi hb hk
    obtain ⟨k, rfl⟩ : ∃ q, k = q + 1 := ⟨k - 1, by omega⟩
    have hil : i < l.length := by omega
    have h30 := ha l[i] (List.getElem_mem hil)
    rw [graph_Uses.l0, if_pos (by omega), if_pos (by omega), if_pos (by omega), rdN hil, List.drop_eq_getElem_cons hil]
    -- how long acc is bounds the rest
    have key : ∀ (d' : Nat) (k j : Nat) (ac : List Int), l[i].f1.length - j = d' → j ≤ l[i].f1.length → ac.length + d' ≤ acc.length + 30 → 40 * d + 1 + d' + 1 ≤ k →
        graph_Uses.l1 k node ac (i : Int) l (l.length : Int) (i : Int) l[i].f1 (l[i].f1.length : Int) (j : Int) = some (ac ++ (((l[i].f1.drop j).filter fun b => b == node).map fun _ => (i : Int)) ++ useG node ((i + 1 : Nat) : Int) (l.drop (i + 1))) := by
      intro d'
      induction d' with
      | zero =>
        intro k j ac hd' hj hac hk'
        obtain ⟨k, rfl⟩ : ∃ q, k = q + 1 := ⟨k - 1, by omega⟩
        rw [graph_Uses.l1, if_neg (by omega), show l[i].f1.drop j = [] from List.drop_eq_nil_of_le (by omega), w1n (x := i) (by omega), ih k (i + 1) ac (by omega) (by omega) (by omega) (by omega)]
        simp
      | succ d' ih' =>
        intro k j ac hd' hj hac hk'
        obtain ⟨k, rfl⟩ : ∃ q, k = q + 1 := ⟨k - 1, by omega⟩
        have hjl : j < l[i].f1.length := by omega
        rw [graph_Uses.l1, if_pos (by omega), if_pos (by omega), if_pos (by omega), rd_lt hjl, List.drop_eq_getElem_cons hjl, w1n (x := j) (by omega)]
        by_cases h : l[i].f1[j] = node
        · rw [if_pos h, if_pos (by omega), ih' k (j + 1) _ (by omega) (by omega) (by simp; omega) (by omega), List.filter_cons_of_pos (by simpa using h)]
          simp
        · rw [if_neg h, ih' k (j + 1) _ (by omega) (by omega) (by omega) (by omega), List.filter_cons_of_neg (by simpa using h)]
    have := key l[i].f1.length k 0 acc (by omega) (by omega) (by omega) (by omega)
    rw [show ((0 : Nat) : Int) = 0 from rfl] at this
    rw [this, List.drop_zero, useG, List.append_assoc, show ((i : Int) + 1) = ((i + 1 : Nat) : Int) by omega]
theorem uses_f (l : List S35) (node : Int) (k : Nat) (hk : 1100 ≤ k) : graph_Uses.f k l node = some (if gchk l = true then useG node 0 l else []) := by
  unfold graph_Uses.f graph_Check.f
  rw [Option.bind_some]
  cases hg : gchk l with
  | false => rfl
  | true =>
    have hG := gchk_iff.mp hg
    have := hG.le
    rw [if_pos rfl, if_pos rfl]
    exact use_l0 l node (by omega) (fun n hn => by obtain ⟨j, hj, hjn, hW⟩ := hG.mem hn; have := node_len hW; omega) l.length k 0 [] (by omega) (by omega) (by simp; omega) (by omega)
theorem useG_mem {node : Int} : ∀ {l : List S35} {i x : Int}, x ∈ useG node i l ↔ ∃ (j : Nat) (n : S35), l[j]? = some n ∧ x = i + j ∧ node ∈ n.f1
  | [], i, x => by simp [useG]
  | n :: r, i, x => by
    rw [useG, List.mem_append, useG_mem]
    constructor
    · rintro (h | ⟨j, m, h1, h2, h3⟩)
      · simp only [List.mem_map, List.mem_filter, beq_iff_eq] at h
        obtain ⟨a, ⟨ha, rfl⟩, rfl⟩ := h
        exact ⟨0, n, rfl, by omega, ha⟩
      · exact ⟨j + 1, m, by simpa using h1, by omega, h3⟩
    · rintro ⟨j, m, h1, h2, h3⟩
      cases j with
      | zero =>
        simp at h1
        subst h1
        refine .inl ?_
        simp only [List.mem_map, List.mem_filter, beq_iff_eq]
        exact ⟨node, ⟨h3, rfl⟩, by omega⟩
      | succ j => exact .inr ⟨j, m, by simpa using h1, by omega, h3⟩
theorem useG_rises (node : Int) : ∀ (l : List S35) (i : Int), (useG node i l).Pairwise (· ≤ ·) ∧ ∀ x ∈ useG node i l, i ≤ x
  | [], i => by simp [useG]
  | n :: r, i => by
    obtain ⟨h1, h2⟩ := useG_rises node r (i + 1)
    have hm : ∀ x ∈ (n.f1.filter fun a => a == node).map (fun _ => i), x = i := by
      intro x hx
      obtain ⟨_, _, rfl⟩ := List.mem_map.mp hx
      rfl
    constructor
    · rw [useG, List.pairwise_append]
      refine ⟨?_, h1, fun a ha b hb => ?_⟩
      · rw [List.pairwise_map]
        exact List.pairwise_of_forall (fun _ _ => Int.le_refl _)
      · have := hm a ha
        have := h2 b hb
        omega
    · intro x hx
      rw [useG, List.mem_append] at hx
      rcases hx with hx | hx
      · have := hm x hx; omega
      · have := h2 x hx; omega
theorem useG_app (node : Int) : ∀ (l r : List S35) (i : Int), useG node i (l ++ r) = useG node i l ++ useG node (i + l.length) r
  | [], r, i => by simp [useG]
  | n :: l, r, i => by
    rw [List.cons_append, useG, useG_app node l r (i + 1), useG, List.append_assoc]
    congr 3
    simp
    omega
/-! ### numbers in order, none twice -/
theorem strict_eq : ∀ {a b : List Int}, a.Pairwise (· < ·) → b.Pairwise (· < ·) → (∀ x, x ∈ a ↔ x ∈ b) → a = b
  | [], [], _, _, _ => rfl
  | [], y :: b, _, _, h => absurd ((h y).mpr List.mem_cons_self) (by simp)
  | x :: a, [], _, _, h => absurd ((h x).mp List.mem_cons_self) (by simp)
  | x :: a, y :: b, ha, hb, h => by
    have ha' := List.pairwise_cons.1 ha
    have hb' := List.pairwise_cons.1 hb
    have e : x = y := by
      rcases List.mem_cons.1 ((h x).mp List.mem_cons_self) with e | m1
      · exact e
      · rcases List.mem_cons.1 ((h y).mpr List.mem_cons_self) with e | m2
        · exact e.symm
        · have := hb'.1 x m1
          have := ha'.1 y m2
          omega
    subst e
    congr 1
    refine strict_eq ha'.2 hb'.2 (fun z => ?_)
    constructor
    · intro hz
      have h1 := ha'.1 z hz
      rcases List.mem_cons.1 ((h z).mp (List.mem_cons_of_mem _ hz)) with e | m
      · omega
      · exact m
    · intro hz
      have h1 := hb'.1 z hz
      rcases List.mem_cons.1 ((h z).mpr (List.mem_cons_of_mem _ hz)) with e | m
      · omega
      · exact m
theorem cmpL_some : ∀ (l : List Int) (p : Int), l.Pairwise (· ≤ ·) → (∀ y ∈ l, p ≤ y) → (cmpL (some p) l).Pairwise (· < ·) ∧ (∀ y ∈ cmpL (some p) l, p < y) ∧ ∀ x, x ∈ cmpL (some p) l ∨ x = p ↔ x ∈ l ∨ x = p
  | [], p, _, _ => by simp [cmpL]
  | y :: r, p, hs, hp => by
    have hs' := List.pairwise_cons.1 hs
    have hy := hp y List.mem_cons_self
    obtain ⟨i1, i2, i3⟩ := cmpL_some r y hs'.2 hs'.1
    unfold cmpL
    by_cases c : y = p
    · subst c
      rw [if_pos rfl]
      refine ⟨i1, i2, fun x => ?_⟩
      rw [i3, List.mem_cons]
      constructor
      · rintro (h | h)
        · exact .inl (.inr h)
        · exact .inr h
      · rintro ((h | h) | h)
        · exact .inr h
        · exact .inl h
        · exact .inr h
    · rw [if_neg c]
      refine ⟨List.pairwise_cons.2 ⟨i2, i1⟩, fun z hz => ?_, fun x => ?_⟩
      · rcases List.mem_cons.1 hz with rfl | hz
        · omega
        · have := i2 z hz
          omega
      · rw [List.mem_cons, List.mem_cons, or_comm (a := x = y), i3, or_comm (b := x = y)]
theorem cmpL_none (l : List Int) (hs : l.Pairwise (· ≤ ·)) : (cmpL none l).Pairwise (· < ·) ∧ ∀ x, x ∈ cmpL none l ↔ x ∈ l := by
  cases l with
  | nil => simp [cmpL]
  | cons y r =>
    have hs' := List.pairwise_cons.1 hs
    obtain ⟨i1, i2, i3⟩ := cmpL_some r y hs'.2 hs'.1
    refine ⟨List.pairwise_cons.2 ⟨i2, i1⟩, fun x => ?_⟩
    rw [cmpL, List.mem_cons, List.mem_cons, or_comm, i3, or_comm]
theorem prmF_spec (l : List S35) : (prmF l).Pairwise (· < ·) ∧ ∀ x, x ∈ prmF l ↔ x ∈ nms l := by
  obtain ⟨h1, h2⟩ := cmpL_none (sortI (nms l)) (sortI_rises _)
  exact ⟨h1, fun x => by rw [prmF, h2, (sortI_perm (nms l)).mem_iff]⟩
theorem nms_mem {l : List S35} {x : Int} : x ∈ nms l ↔ ∃ n ∈ l, n.f0 = 2 ∧ rd n.f2 0 = x := by
  unfold nms nm
  rw [List.mem_filterMap]
  constructor
  · rintro ⟨n, hn, h⟩
    by_cases c : n.f0 = 2
    · rw [if_pos c] at h
      injection h with h
      exact ⟨n, hn, c, h⟩
    · rw [if_neg c] at h
      cases h
  · rintro ⟨n, hn, c, h⟩
    exact ⟨n, hn, by rw [if_pos c, h]⟩
/-- Is it the parameter of one of these? -/
def hasP (p : Int) (l : List S35) : Bool := l.any fun n => decide (n.f0 = 2) && (rd n.f2 0 == p)
theorem hasP_cons (p : Int) (n : S35) (l : List S35) : hasP p (n :: l) = (decide (n.f0 = 2) && (rd n.f2 0 == p) || hasP p l) := rfl
theorem hasP_iff {p : Int} {l : List S35} : hasP p l = true ↔ p ∈ nms l := by
  unfold hasP
  rw [List.any_eq_true, nms_mem]
  simp only [Bool.and_eq_true, decide_eq_true_eq, beq_iff_eq]
theorem inpF_len {l : List S35} (hG : GOk l) : (inpF l).1.length ≤ 10 := by
  unfold inpF
  cases h : l.find? (fun n => n.f0 == 1) with
  | none => simp
  | some n =>
    obtain ⟨j, hj, hjn, hW⟩ := hG.mem (List.mem_of_find?_eq_some h)
    have := node_len hW
    show n.f2.length ≤ 10
    omega
theorem useG_len2 (node : Int) : ∀ (l : List S35) (i : Int), (∀ n ∈ l, n.f1.length ≤ 2) → (useG node i l).length ≤ 2 * l.length
  | [], i, _ => by simp [useG]
  | n :: r, i, h => by
    have h1 := h n List.mem_cons_self
    have h2 := useG_len2 node r (i + 1) (fun m hm => h m (List.mem_cons_of_mem _ hm))
    have h3 : (n.f1.filter fun a => a == node).length ≤ n.f1.length := List.length_filter_le _ _
    rw [useG, List.length_append, List.length_map, List.length_cons]
    omega
theorem useG_len {l : List S35} (hG : GOk l) (node : Int) : (useG node 0 l).length ≤ 100 := by
  have := useG_len2 node l 0 (fun n hn => by obtain ⟨j, hj, hjn, hW⟩ := hG.mem hn; exact (node_len hW).2.2.1)
  have := hG.le
  omega
theorem inp_count (l : List S35) : (inpF l).2 = decide (0 < l.countP fun n => n.f0 == 1) := by
  unfold inpF
  cases h : l.find? (fun n => n.f0 == 1) with
  | none =>
    have : l.countP (fun n => n.f0 == 1) = 0 := List.countP_eq_zero.mpr (fun n hn => by have := List.find?_eq_none.mp h n hn; exact this)
    rw [this]
    rfl
  | some n =>
    have : 0 < l.countP (fun n => n.f0 == 1) := List.countP_pos_iff.mpr ⟨n, List.mem_of_find?_eq_some h, List.find?_some (p := fun n : S35 => n.f0 == 1) h⟩
    exact (decide_eq_true this).symm
theorem nms_rng {l : List S35} (hG : GOk l) {x : Int} (h : x ∈ nms l) : 0 ≤ x ∧ x < 8 := by
  obtain ⟨n, hn, c, rfl⟩ := nms_mem.mp h
  obtain ⟨j, hj, hjn, hW⟩ := hG.mem hn
  exact (prm_node hW c).2
theorem prmF_len (l : List S35) : (prmF l).length ≤ l.length := by
  have h1 := cmpL_len (sortI (nms l)) none
  have h2 := (sortI_perm (nms l)).length_eq
  have h3 : (nms l).length ≤ l.length := List.length_filterMap_le _ _
  unfold prmF
  omega
/-! ### live nodes -/
/-- All that live ones use, and the last one, from the top down. -/
def lvS (l : List S35) : Nat → List Int → List Int
  | 0, S => S
  | m + 1, S => if (m : Int) ∈ S then lvS l m (S ++ (rd_T35 l (m : Int)).f1) else lvS l m S
def ArgsOk (l : List S35) : Prop := ∀ (j : Nat) n, l[j]? = some n → ∀ a ∈ n.f1, 0 ≤ a ∧ a < j
theorem GOk.args {l : List S35} (h : GOk l) : ArgsOk l := fun j n hn => by
  obtain ⟨kd, _, _, _, h4⟩ := nodeW_iff.mp (h.node j n hn)
  exact h4
theorem argsAt {l : List S35} (h : ArgsOk l) {m : Nat} {a : Int} (ha : a ∈ (rd_T35 l (m : Int)).f1) (hm : m < l.length) : 0 ≤ a ∧ a < m := by
  rw [rdN hm] at ha
  exact h m _ (List.getElem?_eq_getElem hm) a ha
theorem lvS_sub (l : List S35) : ∀ (m : Nat) (S : List Int) (x : Int), x ∈ S → x ∈ lvS l m S
  | 0, S, x, h => h
  | m + 1, S, x, h => by
    unfold lvS
    split
    · exact lvS_sub l m _ x (List.mem_append_left _ h)
    · exact lvS_sub l m _ x h
theorem lvS_mem {l : List S35} (hA : ArgsOk l) : ∀ (m : Nat) (S : List Int) (x : Int), m ≤ l.length → (x ∈ lvS l m S ↔ x ∈ S ∨ ∃ j : Nat, j < m ∧ (j : Int) ∈ lvS l m S ∧ x ∈ (rd_T35 l (j : Int)).f1)
  | 0, S, x, _ => by simp [lvS]
  | m + 1, S, x, hm => by
    have up : ∀ S' : List Int, ((m : Int) ∈ lvS l m S' ↔ (m : Int) ∈ S') := by
      intro S'
      rw [lvS_mem hA m S' (m : Int) (by omega)]
      constructor
      · rintro (h | ⟨j, h1, _, h3⟩)
        · exact h
        · have := argsAt hA h3 (by omega)
          omega
      · exact .inl
    unfold lvS
    by_cases c : (m : Int) ∈ S
    · rw [if_pos c, lvS_mem hA m _ x (by omega)]
      constructor
      · rintro (h | ⟨j, h1, h2, h3⟩)
        · rcases List.mem_append.mp h with h | h
          · exact .inl h
          · exact .inr ⟨m, by omega, (up _).mpr (List.mem_append_left _ c), h⟩
        · exact .inr ⟨j, by omega, h2, h3⟩
      · rintro (h | ⟨j, h1, h2, h3⟩)
        · exact .inl (List.mem_append_left _ h)
        · by_cases e : j = m
          · subst e; exact .inl (List.mem_append_right _ h3)
          · exact .inr ⟨j, by omega, h2, h3⟩
    · rw [if_neg c, lvS_mem hA m _ x (by omega)]
      constructor
      · rintro (h | ⟨j, h1, h2, h3⟩)
        · exact .inl h
        · exact .inr ⟨j, by omega, h2, h3⟩
      · rintro (h | ⟨j, h1, h2, h3⟩)
        · exact .inl h
        · by_cases e : j = m
          · subst e; exact absurd ((up _).mp h2) c
          · exact .inr ⟨j, by omega, h2, h3⟩
def upto (n : Nat) : List Int := (List.range n).map Int.ofNat
theorem upto_succ (n : Nat) : upto (n + 1) = upto n ++ [(n : Int)] := by rw [upto, List.range_succ, List.map_append]; rfl
theorem upto_mem {n : Nat} {x : Int} : x ∈ upto n ↔ 0 ≤ x ∧ x < n := by
  unfold upto
  simp only [List.mem_map, List.mem_range]
  constructor
  · rintro ⟨a, h, rfl⟩
    exact ⟨Int.natCast_nonneg a, Int.ofNat_lt.mpr h⟩
  · intro h; exact ⟨x.toNat, by omega, by show ((x.toNat : Nat) : Int) = x; omega⟩
theorem upto_strict (n : Nat) : (upto n).Pairwise (· < ·) := by
  unfold upto
  rw [List.pairwise_map]
  exact List.pairwise_lt_range.imp (fun h => Int.ofNat_lt.mpr h)
theorem lvGo_eq {l : List S35} (hA : ArgsOk l) : ∀ (m : Nat) (S : List Int), m ≤ l.length → (lvGo l m S).reverse = (upto m).filter fun x => decide (x ∈ lvS l m S)
  | 0, S, _ => rfl
  | m + 1, S, hm => by
    have up : ∀ S' : List Int, ((m : Int) ∈ lvS l m S' ↔ (m : Int) ∈ S') := by
      intro S'
      rw [lvS_mem hA m S' (m : Int) (by omega)]
      constructor
      · rintro (h | ⟨j, h1, _, h3⟩)
        · exact h
        · have := argsAt hA h3 (by omega)
          omega
      · exact .inl
    unfold lvGo lvS
    rw [upto_succ, List.filter_append]
    by_cases c : (m : Int) ∈ S
    · rw [if_pos c, if_pos c, List.reverse_cons, lvGo_eq hA m _ (by omega)]
      congr 1
      have := decide_eq_true ((up (S ++ (rd_T35 l (m : Int)).f1)).mpr (List.mem_append_left _ c))
      simp only [List.filter, this]
    · rw [if_neg c, if_neg c, lvGo_eq hA m _ (by omega)]
      have := decide_eq_false (fun h => c ((up S).mp h))
      simp only [List.filter, this, List.append_nil]
/-- What is live, told by what uses it. -/
theorem live_spec {l : List S35} (hA : ArgsOk l) (h0 : 0 < l.length) : (liveF l).Pairwise (· < ·) ∧ ∀ x : Int, x ∈ liveF l ↔ (0 ≤ x ∧ x < l.length) ∧ (x = (l.length : Int) - 1 ∨ ∃ j ∈ useG x 0 l, j ∈ liveF l) := by
  have e : liveF l = (upto l.length).filter fun x => decide (x ∈ lvS l l.length [(l.length : Int) - 1]) := lvGo_eq hA l.length _ (Nat.le_refl _)
  constructor
  · rw [e]; exact (upto_strict _).filter _
  · intro x
    have hm : ∀ y : Int, y ∈ liveF l ↔ (0 ≤ y ∧ y < l.length) ∧ y ∈ lvS l l.length [(l.length : Int) - 1] := by
      intro y
      rw [e, List.mem_filter, upto_mem, decide_eq_true_eq]
    rw [hm]
    refine and_congr_right (fun hx => ?_)
    rw [lvS_mem hA _ _ _ (Nat.le_refl _), List.mem_singleton]
    refine or_congr_right ?_
    constructor
    · rintro ⟨j, h1, h2, h3⟩
      rw [rdN h1] at h3
      exact ⟨(j : Int), useG_mem.mpr ⟨j, _, List.getElem?_eq_getElem h1, by omega, h3⟩, (hm _).mpr ⟨⟨by omega, by omega⟩, h2⟩⟩
    · rintro ⟨j, h1, h2⟩
      obtain ⟨i, n, g1, g2, g3⟩ := useG_mem.mp h1
      obtain ⟨hi, hn⟩ := List.getElem?_eq_some_iff.mp g1
      have hj := ((hm j).mp h2).2
      refine ⟨i, hi, ?_, by rw [rdN hi, hn]; exact g3⟩
      rw [show ((i : Nat) : Int) = j by omega]
      exact hj
theorem liveF_len (l : List S35) : (liveF l).length ≤ l.length := by
  rw [liveF, List.length_reverse]
  exact lvGo_len l _ _
theorem live_last {l : List S35} (h0 : 0 < l.length) : ∃ t, liveF l = t ++ [(l.length : Int) - 1] := by
  obtain ⟨m, hm⟩ : ∃ m, l.length = m + 1 := ⟨l.length - 1, by omega⟩
  unfold liveF
  rw [hm, lvGo, if_pos (by simp), List.reverse_cons]
  exact ⟨_, by congr 2; omega⟩
/-! ### in a list -/
theorem in_l0 (l : List Int) (x : Int) (hl : l.length ≤ 1000000) (d : Nat) : ∀ (k i : Nat), l.length - i = d → i ≤ l.length → d + 1 ≤ k → fullerref10_In.l0 k l x (i : Int) = some (decide (x ∈ l.drop i)) := by
  induction d with
  | zero =>
    intro k i hd hi hk
    obtain ⟨k, rfl⟩ : ∃ q, k = q + 1 := ⟨k - 1, by omega⟩
    rw [fullerref10_In.l0, if_neg (by omega), List.drop_eq_nil_of_le (by omega)]
    simp
  | succ d ih =>
    intro k i hd hi hk
    obtain ⟨k, rfl⟩ : ∃ q, k = q + 1 := ⟨k - 1, by omega⟩
    have hil : i < l.length := by omega
    rw [fullerref10_In.l0, if_pos (by omega), if_pos (by omega), rd_lt hil, List.drop_eq_getElem_cons hil]
    by_cases h : l[i] = x
    · rw [if_pos h]; simp [h]
    · rw [if_neg h, w1n (x := i) (by omega), ih k (i + 1) (by omega) (by omega) (by omega)]
      congr 1
      refine decide_eq_decide.mpr ?_
      rw [List.mem_cons]
      exact ⟨.inr, fun hh => hh.resolve_left (fun e => h e.symm)⟩
theorem in_f (l : List Int) (x : Int) (hl : l.length ≤ 1000000) (k : Nat) (hk : l.length + 1 ≤ k) : fullerref10_In.f k l x = some (decide (x ∈ l)) := by
  unfold fullerref10_In.f
  have := in_l0 l x hl l.length k 0 (by omega) (by omega) hk
  rw [List.drop_zero] at this
  exact this
end Go.Proofs.Ytklnbfdoklcmfaa.Plain
