/- What the document tells of graphs, in plain words: the same; no conditions. -/
import Derived.Test.YtklnbfdoklcmfaaBaseR
import Derived.Test.YtklnbfdoklcmfaaAx14
import Derived.Test.YtklnbfdoklcmfaaAx13
import Derived.Test.YtklnbfdoklcmfaaAx12
namespace Go.Proofs.Ytklnbfdoklcmfaa.Plain
open Go.RowKit Go.Proofs.Ytklnbfdoklcmfaa.A Go.Proofs.YtklnbfdoklcmfaaW.PrintWords Go.Proofs.YtklnbfdoklcmfaaW.PrintLast Go.Proofs.YtklnbfdoklcmfaaW.PrintMore
set_option linter.unusedVariables false
set_option linter.unusedSimpArgs false
def arity (op : Int) : Int := match gkind op with
  | none => -1
  | some kd => kd.1
theorem rarity_small : ∀ t : Fin 53, fullerref10_Arity.f 5 (t.val : Int) = some (arity (t.val : Int)) := by decide +kernel
theorem rarity_f (op : Int) (k : Nat) (hk : 5 ≤ k) : fullerref10_Arity.f k op = some (arity op) := by
  refine at_rounds (fullerref10_Arity.mono _) hk ?_
  by_cases h : 0 ≤ op ∧ op ≤ 52
  · have := rarity_small ⟨op.toNat, by omega⟩
    simp only [Int.toNat_of_nonneg h.1] at this
    exact this
  · have hn : gkind op = none := by
      cases hk : gkind op with
      | none => rfl
      | some kd => have := kind_rng hk; omega
    unfold arity
    rw [hn]
    unfold fullerref10_Arity.f
    by_cases h0 : op ≥ 1
    · rw [if_pos h0, decide_eq_false (by omega), fullerref10_Arity.j0, if_neg (by simp), if_pos (by omega), if_neg (by omega), if_neg (by omega), show (op == 43) = false from beq_eq_false_iff_ne.mpr (by omega), fullerref10_Arity.j1, if_neg (by simp), if_pos (by omega), if_neg (by omega), if_pos (by omega), if_neg (by omega), if_pos (by omega), if_neg (by omega)]
    · rw [if_neg h0, fullerref10_Arity.j0, if_neg (by simp), if_neg (by omega), if_neg (by omega), show (op == 43) = false from beq_eq_false_iff_ne.mpr (by omega), fullerref10_Arity.j1, if_neg (by simp), if_neg (by omega), if_neg (by omega), if_neg (by omega)]
theorem numsR_some (op : Int) (a s : List Int) (k : Nat) (hk : 20 ≤ k) : ∃ b, fullerref10_nums.f k op a s = some b := by
  unfold fullerref10_nums.f
  rw [rcheck_f s k (by omega)]
  simp only [Option.bind_some]
  obtain ⟨k, rfl⟩ : ∃ q, k = q + 1 := ⟨k - 1, by omega⟩
  have key : ∀ z, ∃ b, fullerref10_nums.j0 (k + 1) (chk s) z op a s = some b := by
    intro z
    rw [fullerref10_nums.j0]
    split
    · exact ⟨_, rfl⟩
    · split
      · split
        · exact ⟨_, rfl⟩
        · rw [if_pos (by omega)]
          split
          · exact ⟨_, rfl⟩
          · split
            · exact ⟨_, rfl⟩
            · rw [if_pos (by omega), rcheck_f _ k (by omega)]
              exact ⟨_, rfl⟩
      · repeat' split
        all_goals exact ⟨_, rfl⟩
  split
  · exact key _
  · exact key _
theorem numsR_f {op : Int} {kd : Int × Int} (h : gkind op = some kd) (a s : List Int) (k : Nat) (hk : 20 ≤ k) : fullerref10_nums.f k op a s = some (numsB kd.2 s) := by
  unfold fullerref10_nums.f
  rw [rcheck_f s k (by omega)]
  simp only [Option.bind_some]
  obtain ⟨k, rfl⟩ : ∃ q, k = q + 1 := ⟨k - 1, by omega⟩
  have hm := gkind_mem h
  have dec : ∀ (x : Nat) (y : Int), ((x : Int) == y) = decide ((x : Int) = y) := fun x y => by
    by_cases c : (x : Int) = y <;> simp [c]
  simp only [kindL, List.mem_cons, Prod.mk.injEq, List.not_mem_nil, or_false] at hm
  have two : fullerref10_nums.j0 (k + 1) (chk s) ((2 : Int) == 40) 2 a s = some (numsB (-2) s) := by
    rw [fullerref10_nums.j0, if_neg (by decide), if_pos rfl]
    unfold numsB
    rw [if_pos rfl]
    by_cases h3 : (s.length : Int) = 0
    · rw [if_pos h3, decide_eq_false (by omega)]; rfl
    · rw [if_neg h3, if_pos (by omega), decide_eq_true (show 0 < s.length by omega)]
      by_cases h4 : rd s 0 < 0
      · rw [if_pos h4, decide_eq_false (show ¬ 0 ≤ rd s 0 by omega)]; rfl
      · rw [if_neg h4, decide_eq_true (show 0 ≤ rd s 0 by omega)]
        by_cases h5 : rd s 0 > 7
        · rw [if_pos h5, decide_eq_false (show ¬ rd s 0 < 8 by omega)]; rfl
        · rw [if_neg h5, decide_eq_true (show rd s 0 < 8 by omega), if_pos (by omega), rcheck_f _ k (by omega)]
          simp
  have one : ∀ op : Int, (op = 1 ∨ op = 40) → (if op = 1 then fullerref10_nums.j0 (k + 1) (chk s) true op a s else fullerref10_nums.j0 (k + 1) (chk s) (op == 40) op a s) = some (numsB (-1) s) := by
    intro op h
    have e : numsB (-1) s = chk s := by unfold numsB; rw [if_neg (by decide), if_pos rfl]
    rw [e]
    rcases h with rfl | rfl
    · rw [if_pos rfl, fullerref10_nums.j0, if_pos rfl]
    · rw [if_neg (by decide), fullerref10_nums.j0, if_pos (by decide)]
  have cnt : ∀ (op c : Int), op ≠ 1 → op ≠ 40 → op ≠ 2 → (c ≠ -2 ∧ c ≠ -1) → (if op = 42 then c = 3 else if op = 3 then c = 1 else if op = 43 then c = 1 else if op ≥ 50 then c = 1 else c = 0) → (if op = 1 then fullerref10_nums.j0 (k + 1) (chk s) true op a s else fullerref10_nums.j0 (k + 1) (chk s) (op == 40) op a s) = some (numsB c s) := by
    intro op c h1 h2 h3 h4 h5
    have e : numsB c s = decide ((s.length : Int) = c) := by unfold numsB; rw [if_neg h4.1, if_neg h4.2]
    rw [e, if_neg h1, beq_eq_false_iff_ne.mpr h2, fullerref10_nums.j0, if_neg (by decide), if_neg h3]
    split
    · rename_i g; rw [if_pos g] at h5; rw [h5, dec]
    · rename_i g; rw [if_neg g] at h5
      split
      · rename_i g; rw [if_pos g] at h5; rw [h5, dec]
      · rename_i g; rw [if_neg g] at h5
        split
        · rename_i g; rw [if_pos g] at h5; rw [h5, dec]
        · rename_i g; rw [if_neg g] at h5
          split
          · rename_i g; rw [if_pos g] at h5; rw [h5, dec]
          · rename_i g; rw [if_neg g] at h5; rw [h5, dec]
  rcases hm with ⟨rfl, rfl⟩ | ⟨rfl, rfl⟩ | ⟨rfl, rfl⟩ | ⟨rfl, rfl⟩ | ⟨rfl, rfl⟩ | ⟨rfl, rfl⟩ | ⟨rfl, rfl⟩ | ⟨rfl, rfl⟩ | ⟨rfl, rfl⟩ | ⟨rfl, rfl⟩ | ⟨rfl, rfl⟩ | ⟨rfl, rfl⟩ | ⟨rfl, rfl⟩ | ⟨rfl, rfl⟩ | ⟨rfl, rfl⟩ | ⟨rfl, rfl⟩ | ⟨rfl, rfl⟩ | ⟨rfl, rfl⟩ | ⟨rfl, rfl⟩
  all_goals first
    | exact one _ (Or.inl rfl)
    | exact one _ (Or.inr rfl)
    | (rw [if_neg (by decide)]; exact two)
    | exact cnt _ _ (by decide) (by decide) (by decide) (by decide) (by decide)
/-- Have two nodes one shape, if they have one name? -/
def likeB (a b : S35) : Bool := match gkey a, gkey b with
  | some x, some y => if x = y then decide (a.f2 = b.f2) else true
  | _, _ => true
theorem likeB_iff {a b : S35} : likeB a b = true ↔ ∀ x, gkey a = some x → gkey b = some x → a.f2 = b.f2 := by
  unfold likeB
  cases ha : gkey a with
  | none => simp
  | some x =>
    cases hb : gkey b with
    | none => simp
    | some y =>
      simp only
      by_cases e : x = y
      · rw [if_pos e]
        simp [e]
      · rw [if_neg e]
        simp only [true_iff]
        intro z hz hz'
        injection hz with hz
        injection hz' with hz'
        exact absurd (hz.trans hz'.symm) e
theorem param_pos {i : Int} {n : S35} (h : nodeW i n = true) (h2 : n.f0 = 2) : 0 < n.f2.length ∧ 0 ≤ rd n.f2 0 ∧ rd n.f2 0 < 8 := by
  obtain ⟨kd, h1, _, h3, _⟩ := nodeW_iff.mp h
  have hk : gkind 2 = some (0, -2) := by decide
  rw [h2, hk] at h1
  injection h1 with h1
  subst h1
  unfold numsB at h3
  rw [if_pos rfl] at h3
  simp only [Bool.and_eq_true, decide_eq_true_eq] at h3
  exact ⟨h3.1.1.1, h3.1.1.2, h3.1.2⟩
theorem like_f {i j : Int} {a b : S35} (ha : nodeW i a = true) (hb : nodeW j b = true) (k : Nat) (hk : 40 ≤ k) : fullerref10_like.f k a.f0 a.f1 a.f2 b.f0 b.f1 b.f2 = some (likeB a b) := by
  have na := node_len ha
  have nb := node_len hb
  unfold fullerref10_like.f likeB
  by_cases e : a.f0 = b.f0
  · rw [if_pos e]
    by_cases h1 : a.f0 > 2
    · rw [if_pos h1]
      have : gkey a = none := by unfold gkey; rw [if_neg (by omega), if_neg (by omega)]
      rw [this]
    · rw [if_neg h1]
      by_cases h2 : a.f0 = 2
      · have pa := param_pos ha h2
        have pb := param_pos hb (by omega)
        rw [if_pos h2, if_pos (by omega), if_pos (by omega)]
        have ka : gkey a = some (rd a.f2 0) := by unfold gkey; rw [if_neg (by omega), if_pos h2]
        have kb : gkey b = some (rd b.f2 0) := by unfold gkey; rw [if_neg (by omega), if_pos (by omega)]
        rw [ka, kb]
        simp only
        by_cases h3 : rd a.f2 0 = rd b.f2 0
        · rw [if_pos h3, if_pos h3, same_f _ _ (by omega) _ (by omega)]
          rfl
        · rw [if_neg h3, if_neg h3]
      · have h3 : a.f0 = 1 := by omega
        have ka : gkey a = some (-1) := by unfold gkey; rw [if_pos h3]
        have kb : gkey b = some (-1) := by unfold gkey; rw [if_pos (by omega)]
        rw [if_neg h2, ka, kb, same_f _ _ (by omega) _ (by omega)]
        rfl
  · rw [if_neg e]
    by_cases h1 : a.f0 = 1
    · have ka : gkey a = some (-1) := by unfold gkey; rw [if_pos h1]
      by_cases h2 : b.f0 = 2
      · have pb := param_pos hb h2
        have kb : gkey b = some (rd b.f2 0) := by unfold gkey; rw [if_neg (by omega), if_pos h2]
        rw [ka, kb]
        simp only
        rw [if_neg (by omega)]
      · have kb : gkey b = none := by unfold gkey; rw [if_neg (by omega), if_neg h2]
        rw [ka, kb]
    · by_cases h2 : a.f0 = 2
      · have pa := param_pos ha h2
        have ka : gkey a = some (rd a.f2 0) := by unfold gkey; rw [if_neg h1, if_pos h2]
        by_cases h3 : b.f0 = 1
        · have kb : gkey b = some (-1) := by unfold gkey; rw [if_pos h3]
          rw [ka, kb]
          simp only
          rw [if_neg (by omega)]
        · have kb : gkey b = none := by unfold gkey; rw [if_neg h3, if_neg (by omega)]
          rw [ka, kb]
      · have ka : gkey a = none := by unfold gkey; rw [if_neg h1, if_neg h2]
        rw [ka]
theorem rc_l2 (l : List S35) (i : Nat) (hi : i < l.length) (hll : l.length ≤ 1000) (hw : ∀ j : Nat, (h : j ≤ i) → nodeW j (l[j]'(by omega)) = true) (d : Nat) : ∀ (k j : Nat), i - j = d → j ≤ i → 50 ≤ k →
    fullerref10_Check.l2 (k + d + 1) l (i : Int) (j : Int) = if ((l.take i).drop j).all (fun m => likeB m l[i]) = true then fullerref10_Check.l0 k l ((i + 1 : Nat) : Int) else some false := by
  induction d with
  | zero =>
    intro k j hd hj hk
    have e : wrap64 ((i : Int) + 1) = ((i + 1 : Nat) : Int) := by unfold wrap64; omega
    rw [fullerref10_Check.l2, if_neg (by omega), e, List.drop_eq_nil_of_le (by simp; omega)]
    simp
  | succ d ih =>
    intro k j hd hj hk
    have hjl : j < l.length := by omega
    have ih' := ih k (j + 1) (by omega) (by omega) hk
    rw [fullerref10_Check.l2, if_pos (by omega), if_pos (by omega), if_pos (by omega), if_pos (by omega), if_pos (by omega), rdN hjl, rdN hi, like_f (hw j (by omega)) (hw i (by omega)) _ (by omega)]
    simp only [Option.bind_some]
    have hdr : (l.take i).drop j = l[j] :: (l.take i).drop (j + 1) := by
      rw [List.drop_eq_getElem_cons (show j < (l.take i).length by simp; omega)]
      simp
    rw [hdr, List.all_cons]
    cases hb : likeB l[j] l[i] with
    | false => simp
    | true =>
      have e : wrap64 ((j : Int) + 1) = ((j + 1 : Nat) : Int) := by unfold wrap64; omega
      rw [if_pos rfl, e, show k + (d + 1) = k + d + 1 by omega, ih']
      simp
theorem rc_l1 (l : List S35) (i : Nat) (hi : i < l.length) (hll : l.length ≤ 1000) (ha : l[i].f1.length ≤ 30) (d : Nat) : ∀ (k j : Nat), l[i].f1.length - j = d → j ≤ l[i].f1.length →
    fullerref10_Check.l1 (k + d + 1) l (i : Int) (j : Int) = if (l[i].f1.drop j).all (fun a => decide (0 ≤ a) && decide (a < i)) = true then fullerref10_Check.l2 k l (i : Int) 0 else some false := by
  induction d with
  | zero =>
    intro k j hd hj
    rw [fullerref10_Check.l1, if_pos (by omega), if_pos (by omega), rdN hi, if_neg (by omega), List.drop_eq_nil_of_le (by omega)]
    simp
  | succ d ih =>
    intro k j hd hj
    have hjl : j < l[i].f1.length := by omega
    have ih' := ih k (j + 1) (by omega) (by omega)
    have er : rd l[i].f1 (j : Int) = l[i].f1[j] := by simp [rd, hjl]
    rw [fullerref10_Check.l1, if_pos (by omega), if_pos (by omega), rdN hi, if_pos (by omega), if_pos (by omega), er, List.drop_eq_getElem_cons hjl, List.all_cons]
    generalize l[i].f1[j] = a
    by_cases h1 : a < 0
    · rw [if_pos h1, decide_eq_false (show ¬ 0 ≤ a by omega)]
      simp
    · rw [if_neg h1]
      by_cases h2 : a ≥ (i : Int)
      · rw [if_pos h2, decide_eq_false (show ¬ a < (i : Int) by omega)]
        simp
      · have e : wrap64 ((j : Int) + 1) = ((j + 1 : Nat) : Int) := by unfold wrap64; omega
        rw [if_neg h2, e, show k + (d + 1) = k + d + 1 by omega, ih', decide_eq_true (show 0 ≤ a by omega), decide_eq_true (show a < (i : Int) by omega)]
        simp
theorem rc_l0 (l : List S35) (hll : l.length ≤ 30) (d : Nat) : ∀ (k i : Nat), l.length - i = d → i ≤ l.length → d * 100 + 100 ≤ k → (∀ j : Nat, (h : j < i) → (hj : j < l.length) → nodeW j l[j] = true) →
    ∃ b, fullerref10_Check.l0 k l (i : Int) = some b ∧ (b = true ↔ (∀ j : Nat, i ≤ j → (hj : j < l.length) → nodeW j l[j] = true ∧ ((l.take j).all fun m => likeB m l[j]) = true)) := by
  induction d with
  | zero =>
    intro k i hd hi hk hp
    obtain ⟨k, rfl⟩ : ∃ q, k = q + 1 := ⟨k - 1, by omega⟩
    rw [fullerref10_Check.l0, if_neg (by omega)]
    exact ⟨true, rfl, by simp only [true_iff]; intro j h1 h2; omega⟩
  | succ d ih =>
    intro k i hd hi hk hp
    have hil : i < l.length := by omega
    obtain ⟨b, hb⟩ := numsR_some l[i].f0 l[i].f1 l[i].f2 (k - 1) (by omega)
    obtain ⟨k, rfl⟩ : ∃ q, k = q + 1 := ⟨k - 1, by omega⟩
    rw [Nat.add_sub_cancel] at hb
    have no : ∀ z, (nodeW i l[i] = false) → z = some false → ∃ b, z = some b ∧ (b = true ↔ (∀ j : Nat, i ≤ j → (hj : j < l.length) → nodeW j l[j] = true ∧ ((l.take j).all fun m => likeB m l[j]) = true)) := by
      intro z h1 h2
      refine ⟨false, h2, by simp only [Bool.false_eq_true, false_iff]; intro h; have := (h i (Nat.le_refl _) hil).1; rw [h1] at this; cases this⟩
    rw [fullerref10_Check.l0, if_pos (by omega), if_pos (by omega), rdN hil, hb, rarity_f _ k (by omega)]
    simp only [Option.bind_some]
    obtain ⟨k, rfl⟩ : ∃ q, k = q + 1 := ⟨k - 1, by omega⟩
    have bad : fullerref10_Check.j2 (k + 1) l (i : Int) true = some false := by rw [fullerref10_Check.j2, if_pos rfl]
    cases hg : gkind l[i].f0 with
    | none =>
      have h1 : arity l[i].f0 = -1 := by unfold arity; rw [hg]
      rw [h1, if_pos (by omega)]
      exact no _ (by unfold nodeW; rw [hg]) bad
    | some kd =>
      have h1 : arity l[i].f0 = kd.1 := by unfold arity; rw [hg]
      have hr := kind_rng hg
      rw [numsR_f hg _ _ _ (by omega)] at hb
      injection hb with hb
      subst hb
      rw [h1, if_neg (by omega)]
      by_cases h2 : (l[i].f1.length : Int) = kd.1
      · rw [if_pos h2]
        cases h3 : numsB kd.2 l[i].f2 with
        | false => exact no _ (by unfold nodeW; rw [hg]; simp [h3]) bad
        | true =>
          rw [fullerref10_Check.j2, if_neg (by simp)]
          obtain ⟨q, hq⟩ : ∃ q, k = q + l[i].f1.length + 1 := ⟨k - l[i].f1.length - 1, by omega⟩
          have e1 := rc_l1 l i hil (by omega) (by omega) l[i].f1.length q 0 (by omega) (by omega)
          rw [hq]
          simp only [List.drop_zero] at e1
          rw [show ((0 : Nat) : Int) = 0 from rfl] at e1
          rw [e1]
          by_cases h4 : (l[i].f1.all fun a => decide (0 ≤ a) && decide (a < i)) = true
          · rw [if_pos h4]
            have hwi : nodeW i l[i] = true := nodeW_iff.mpr ⟨kd, hg, h2, h3, fun a haa => by
              have := List.all_eq_true.mp h4 a haa
              simpa using this⟩
            have hwj : ∀ j : Nat, (h : j ≤ i) → nodeW j (l[j]'(by omega)) = true := fun j h => by
              rcases Nat.lt_or_ge j i with c | c
              · exact hp j c (by omega)
              · obtain rfl : j = i := by omega
                exact hwi
            obtain ⟨r, hr2⟩ : ∃ r, q = r + i + 1 := ⟨q - i - 1, by omega⟩
            have e2 := rc_l2 l i hil (by omega) hwj i r 0 (by omega) (by omega) (by omega)
            rw [hr2]
            simp only [List.drop_zero] at e2
            rw [show ((0 : Nat) : Int) = 0 from rfl] at e2
            rw [e2]
            by_cases h5 : ((l.take i).all fun m => likeB m l[i]) = true
            · rw [if_pos h5]
              obtain ⟨b, hb1, hb2⟩ := ih r (i + 1) (by omega) (by omega) (by omega) (fun j h hj => hwj j (by omega))
              refine ⟨b, hb1, hb2.trans ⟨fun h j h1 hj => ?_, fun h j h1 hj => h j (by omega) hj⟩⟩
              rcases Nat.lt_or_ge i j with c | c
              · exact h j (by omega) hj
              · obtain rfl : j = i := by omega
                exact ⟨hwi, h5⟩
            · rw [if_neg h5]
              exact ⟨false, rfl, by simp only [Bool.false_eq_true, false_iff]; intro h; exact h5 (h i (Nat.le_refl _) hil).2⟩
          · rw [if_neg h4]
            refine no _ ?_ rfl
            rw [Bool.eq_false_iff]
            intro hh
            obtain ⟨_, _, _, _, h6⟩ := nodeW_iff.mp hh
            exact h4 (List.all_eq_true.mpr (fun a haa => by simpa using h6 a haa))
      · rw [if_neg h2]
        exact no _ (by unfold nodeW; rw [hg]; simp [h2]) bad
theorem likes_iff {l : List S35} : (∀ j : Nat, (hj : j < l.length) → ((l.take j).all fun m => likeB m l[j]) = true) ↔ ∀ n ∈ l, ∀ m ∈ l, ∀ a, gkey n = some a → gkey m = some a → n.f2 = m.f2 := by
  have sy : ∀ {a b : S35}, likeB a b = true → likeB b a = true := fun h => likeB_iff.mpr (fun x h1 h2 => (likeB_iff.mp h x h2 h1).symm)
  constructor
  · intro h n hn m hm a ha hb
    obtain ⟨i, hi, rfl⟩ := List.mem_iff_getElem.1 hn
    obtain ⟨j, hj, rfl⟩ := List.mem_iff_getElem.1 hm
    rcases Nat.lt_trichotomy i j with c | c | c
    · have := List.all_eq_true.mp (h j hj) l[i] (by rw [List.mem_take_iff_getElem]; exact ⟨i, by omega, rfl⟩)
      exact likeB_iff.mp this a ha hb
    · subst c; rfl
    · have := List.all_eq_true.mp (h i hi) l[j] (by rw [List.mem_take_iff_getElem]; exact ⟨j, by omega, rfl⟩)
      exact likeB_iff.mp (sy this) a ha hb
  · intro h j hj
    refine List.all_eq_true.mpr (fun m hm => likeB_iff.mpr (fun a ha hb => h m (List.mem_of_mem_take hm) _ (List.getElem_mem hj) a ha hb))
/-- The document's answer is the same. -/
theorem rgchk_f (l : List S35) (k : Nat) (hk : 3200 ≤ k) : fullerref10_Check.f k l = some (gchk l) := by
  unfold fullerref10_Check.f
  obtain ⟨k, rfl⟩ : ∃ q, k = q + 1 := ⟨k - 1, by omega⟩
  have fal : ∀ h : ¬ GOk l, gchk l = false := fun h => by rw [Bool.eq_false_iff]; exact fun e => h (gchk_iff.mp e)
  by_cases h0 : (l.length : Int) < 1
  · rw [if_pos h0, fullerref10_Check.j0, if_pos rfl, fal (fun h => by have := h.pos; omega)]
  · rw [if_neg h0]
    by_cases h1 : (l.length : Int) > 24
    · rw [decide_eq_true h1, fullerref10_Check.j0, if_pos rfl, fal (fun h => by have := h.le; omega)]
    · rw [decide_eq_false h1, fullerref10_Check.j0, if_neg (by simp)]
      obtain ⟨b, hb1, hb2⟩ := rc_l0 l (by omega) l.length k 0 (by omega) (by omega) (by omega) (fun j h => by omega)
      rw [show ((0 : Nat) : Int) = 0 from rfl] at hb1
      rw [hb1]
      refine congrArg some (Bool.eq_iff_iff.mpr (hb2.trans (Iff.trans ?_ gchk_iff.symm)))
      constructor
      · intro h
        refine ⟨by omega, by omega, fun j n hn => ?_, likes_iff.mp (fun j hj => (h j (Nat.zero_le _) hj).2)⟩
        obtain ⟨hj, rfl⟩ := List.getElem?_eq_some_iff.1 hn
        exact (h j (Nat.zero_le _) hj).1
      · intro h j _ hj
        exact ⟨h.node j _ (List.getElem?_eq_getElem hj), likes_iff.mpr h.like j hj⟩
end Go.Proofs.Ytklnbfdoklcmfaa.Plain
