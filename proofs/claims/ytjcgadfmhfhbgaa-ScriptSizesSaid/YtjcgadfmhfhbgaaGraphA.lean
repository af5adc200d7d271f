/- Plain facts on graphs: what may be a graph, node by node; no conditions. -/
import Derived.Test.YtjcgadfmhfhbgaaBase
import Derived.Test.YtjcgadfmhfhbgaaAx3
namespace Go.Proofs.Ytjcgadfmhfhbgaa.Plain
open Go.RowKit Go.Proofs.Ytjcgadfmhfhbgaa.A Go.Proofs.YtjcgadfmhfhbgaaW.PrintWords Go.Proofs.YtjcgadfmhfhbgaaW.PrintLast Go.Proofs.YtjcgadfmhfhbgaaW.PrintMore
set_option linter.unusedVariables false
set_option linter.unusedSimpArgs false
def numsB (k : Int) (s : List Int) : Bool :=
  if k = -2 then decide (0 < s.length) && decide (0 ≤ rd s 0) && decide (rd s 0 < 8) && chk (s.drop 1) else if k = -1 then chk s else decide ((s.length : Int) = k)
theorem wellB_eq (n : S48) (kd : Int × Int) : wellB n kd = numsB kd.2 n.f2 := by
  have h := well_some n kd
  unfold graph_well.f at h
  unfold numsB
  by_cases h2 : kd.2 = -2
  · rw [if_pos h2] at h ⊢
    by_cases h3 : (n.f2.length : Int) = 0
    · rw [if_pos h3] at h
      have h := (Option.some.inj h).symm
      rw [h, decide_eq_false (by omega)]
      rfl
    · rw [if_neg h3, if_pos (by omega)] at h
      rw [decide_eq_true (show 0 < n.f2.length by omega)]
      by_cases h4 : rd n.f2 0 < 0
      · rw [if_pos h4] at h
        rw [(Option.some.inj h).symm, decide_eq_false (show ¬ 0 ≤ rd n.f2 0 by omega)]
        rfl
      · rw [if_neg h4] at h
        rw [decide_eq_true (show 0 ≤ rd n.f2 0 by omega)]
        by_cases h5 : rd n.f2 0 ≥ 8
        · rw [if_pos h5] at h
          rw [(Option.some.inj h).symm, decide_eq_false (show ¬ rd n.f2 0 < 8 by omega)]
          rfl
        · rw [if_neg h5, if_pos (by omega), check_f _ 8 (by omega)] at h
          rw [decide_eq_true (show rd n.f2 0 < 8 by omega)]
          exact (Option.some.inj h).symm
  · rw [if_neg h2] at h ⊢
    by_cases h3 : kd.2 = -1
    · rw [if_pos h3, check_f _ 8 (by omega)] at h
      rw [if_pos h3]
      exact (Option.some.inj h).symm
    · rw [if_neg h3] at h ⊢
      rw [(Option.some.inj h).symm]
      by_cases h4 : (n.f2.length : Int) = kd.2
      · rw [decide_eq_true h4]; exact beq_iff_eq.mpr h4
      · rw [decide_eq_false h4]; exact beq_eq_false_iff_ne.mpr h4
def gkey (n : S48) : Option Int := if n.f0 = 1 then some (-1) else if n.f0 = 2 then some (rd n.f2 0) else none
def nodeW (i : Int) (n : S48) : Bool := match gkind n.f0 with
  | none => false
  | some kd => decide ((n.f1.length : Int) = kd.1) && numsB kd.2 n.f2 && !(n.f1.any (gahead i))
theorem gstep_eq (i : Int) (n : S48) (sh : List (Int × List Int)) : gstep i n sh = if nodeW i n = true then (match gkey n with | none => some sh | some a => gseen a n.f2 sh) else none := by
  unfold gstep nodeW
  cases hk : gkind n.f0 with
  | none => simp
  | some kd =>
    have e : ((n.f1.length : Int) = kd.1 ∧ wellB n kd = true ∧ n.f1.any (gahead i) = false) ↔ (decide ((n.f1.length : Int) = kd.1) && numsB kd.2 n.f2 && !(n.f1.any (gahead i))) = true := by
      rw [wellB_eq]
      simp only [Bool.and_eq_true, decide_eq_true_eq, Bool.not_eq_true', and_assoc]
    by_cases hc : (n.f1.length : Int) = kd.1 ∧ wellB n kd = true ∧ n.f1.any (gahead i) = false
    · simp only
      rw [if_pos hc, if_pos (e.mp hc)]
      unfold gkey
      by_cases h4 : n.f0 = 1
      · simp [h4]
      · by_cases h5 : n.f0 = 2
        · simp [h5]
        · simp [h4, h5]
    · simp only
      rw [if_neg hc, if_neg (fun h => hc (e.mpr h))]
theorem shGet_put (k j : Int) (v : List Int) : ∀ sh, shGet j (shPut k v sh) = if j = k then some v else shGet j sh
  | [] => by
    by_cases h : j = k <;> simp [shPut, shGet, h]
  | p :: r => by
    unfold shPut
    by_cases h : k = p.1
    · rw [if_pos h]
      by_cases hj : j = k
      · simp [shGet, hj]
      · simp [shGet, hj, ← h]
    · rw [if_neg h]
      by_cases hj : j = p.1
      · simp [shGet, hj]
        intro e; exact absurd e.symm h
      · simp only [shGet, if_neg hj]
        exact shGet_put k j v r
theorem gall_iff : ∀ (l : List S48) (i : Int) (sh : List (Int × List Int)), gall i l sh = true ↔
    (∀ (j : Nat) n, l[j]? = some n → nodeW (i + j) n = true) ∧ (∀ n ∈ l, ∀ a s, gkey n = some a → shGet a sh = some s → s = n.f2) ∧ (∀ n ∈ l, ∀ m ∈ l, ∀ a, gkey n = some a → gkey m = some a → n.f2 = m.f2)
  | [], i, sh => by simp [gall]
  | n :: r, i, sh => by
    rw [gall, gstep_eq]
    by_cases hw : nodeW i n = true
    · rw [if_pos hw]
      have sft : ∀ (P : Nat → S48 → Prop), (∀ (j : Nat) m, (n :: r)[j]? = some m → P j m) ↔ (P 0 n ∧ ∀ (j : Nat) m, r[j]? = some m → P (j + 1) m) := by
        intro P
        refine ⟨fun h => ⟨h 0 n rfl, fun j m hm => h (j + 1) m (by simpa using hm)⟩, fun h j m hm => ?_⟩
        cases j with
        | zero => simp at hm; subst hm; exact h.1
        | succ j => exact h.2 j m (by simpa using hm)
      rw [sft (fun j m => nodeW (i + j) m = true)]
      have e0 : nodeW (i + ((0 : Nat) : Int)) n = true := by rw [show i + ((0 : Nat) : Int) = i by omega]; exact hw
      have e1 : ∀ j : Nat, i + ((j + 1 : Nat) : Int) = i + 1 + (j : Int) := fun j => by omega
      cases hk : gkey n with
      | none =>
        simp only
        rw [gall_iff r (i + 1) sh]
        constructor
        · rintro ⟨h1, h2, h3⟩
          refine ⟨⟨e0, fun j m hm => by rw [e1]; exact h1 j m hm⟩, fun m hm a s ha => ?_, fun m hm m' hm' a ha ha' => ?_⟩
          · rcases List.mem_cons.1 hm with rfl | hm
            · rw [hk] at ha; cases ha
            · exact h2 m hm a s ha
          · rcases List.mem_cons.1 hm with rfl | hm
            · rw [hk] at ha; cases ha
            · rcases List.mem_cons.1 hm' with rfl | hm'
              · rw [hk] at ha'; cases ha'
              · exact h3 m hm m' hm' a ha ha'
        · rintro ⟨⟨_, h1⟩, h2, h3⟩
          exact ⟨fun j m hm => by rw [← e1]; exact h1 j m hm, fun m hm => h2 m (List.mem_cons_of_mem _ hm), fun m hm m' hm' => h3 m (List.mem_cons_of_mem _ hm) m' (List.mem_cons_of_mem _ hm')⟩
      | some a0 =>
        simp only
        unfold gseen
        have key : ∀ sh', (∀ a, shGet a sh' = if a = a0 then some n.f2 else shGet a sh) → (∀ s, shGet a0 sh = some s → s = n.f2) → (gall (i + 1) r sh' = true ↔
            (nodeW (i + ((0 : Nat) : Int)) n = true ∧ ∀ (j : Nat) m, r[j]? = some m → nodeW (i + ((j + 1 : Nat) : Int)) m = true) ∧ (∀ m ∈ n :: r, ∀ a s, gkey m = some a → shGet a sh = some s → s = m.f2) ∧ (∀ m ∈ n :: r, ∀ m' ∈ n :: r, ∀ a, gkey m = some a → gkey m' = some a → m.f2 = m'.f2)) := by
          intro sh' hsh hn
          rw [gall_iff r (i + 1) sh']
          constructor
          · rintro ⟨h1, h2, h3⟩
            have hx : ∀ m ∈ r, gkey m = some a0 → n.f2 = m.f2 := fun m hm ha => h2 m hm a0 n.f2 ha (by rw [hsh, if_pos rfl])
            refine ⟨⟨e0, fun j m hm => by rw [e1]; exact h1 j m hm⟩, fun m hm a s ha hs => ?_, fun m hm m' hm' a ha ha' => ?_⟩
            · rcases List.mem_cons.1 hm with rfl | hm
              · rw [hk] at ha; injection ha with ha; subst ha; exact hn s hs
              · by_cases e : a = a0
                · subst e
                  rw [hn s hs, hx m hm ha]
                · exact h2 m hm a s ha (by rw [hsh, if_neg e]; exact hs)
            · rcases List.mem_cons.1 hm with rfl | hm0
              · rw [hk] at ha; injection ha with ha; subst ha
                rcases List.mem_cons.1 hm' with rfl | hm'
                · rfl
                · exact hx m' hm' ha'
              · rcases List.mem_cons.1 hm' with e | hm1
                · rw [e, hk] at ha'; injection ha' with ha'; subst ha'
                  rw [e]
                  exact (hx m hm0 ha).symm
                · exact h3 m hm0 m' hm1 a ha ha'
          · rintro ⟨⟨_, h1⟩, h2, h3⟩
            refine ⟨fun j m hm => by rw [← e1]; exact h1 j m hm, fun m hm a s ha hs => ?_, fun m hm m' hm' => h3 m (List.mem_cons_of_mem _ hm) m' (List.mem_cons_of_mem _ hm')⟩
            rw [hsh] at hs
            by_cases e : a = a0
            · rw [if_pos e] at hs
              injection hs with hs
              subst hs e
              exact h3 n List.mem_cons_self m (List.mem_cons_of_mem _ hm) a hk ha
            · rw [if_neg e] at hs
              exact h2 m (List.mem_cons_of_mem _ hm) a s ha hs
        cases hg : shGet a0 sh with
        | none =>
          simp only
          exact key _ (fun a => by rw [shGet_put]) (fun s hs => by rw [hg] at hs; cases hs)
        | some o =>
          simp only
          by_cases ho : o = n.f2
          · rw [if_pos ho]
            exact key _ (fun a => by rw [shGet_put]) (fun s hs => by rw [hg] at hs; injection hs with hs; rw [← hs]; exact ho)
          · rw [if_neg ho]
            simp only [Bool.false_eq_true, false_iff]
            rintro ⟨_, h2, _⟩
            exact ho (h2 n List.mem_cons_self a0 o hk hg)
    · rw [if_neg hw]
      simp only [Bool.false_eq_true, false_iff]
      rintro ⟨h1, _, _⟩
      have := h1 0 n rfl
      rw [show i + ((0 : Nat) : Int) = i by omega] at this
      exact hw this
structure GOk (l : List S48) : Prop where
  pos : 0 < l.length
  le : l.length ≤ 24
  node : ∀ (j : Nat) n, l[j]? = some n → nodeW j n = true
  like : ∀ n ∈ l, ∀ m ∈ l, ∀ a, gkey n = some a → gkey m = some a → n.f2 = m.f2
theorem gchk_iff {l : List S48} : gchk l = true ↔ GOk l := by
  unfold gchk
  simp only [Bool.and_eq_true, decide_eq_true_eq, gall_iff]
  constructor
  · rintro ⟨⟨⟨h1, _, h3⟩, h4⟩, h5⟩
    exact ⟨h4, h5, fun j n hn => by have := h1 j n hn; rwa [show (0 : Int) + (j : Int) = j by omega] at this, h3⟩
  · intro h
    exact ⟨⟨⟨fun j n hn => by rw [show (0 : Int) + (j : Int) = j by omega]; exact h.node j n hn, fun _ _ _ _ _ hs => by simp [shGet] at hs, h.like⟩, h.pos⟩, h.le⟩
theorem nodeW_iff {i : Int} {n : S48} : nodeW i n = true ↔ ∃ kd, gkind n.f0 = some kd ∧ (n.f1.length : Int) = kd.1 ∧ numsB kd.2 n.f2 = true ∧ ∀ a ∈ n.f1, 0 ≤ a ∧ a < i := by
  unfold nodeW
  cases hk : gkind n.f0 with
  | none => simp
  | some kd =>
    simp only [Bool.and_eq_true, decide_eq_true_eq, Bool.not_eq_true', List.any_eq_false, gahead, Bool.or_eq_true, not_or, Option.some.injEq, exists_eq_left']
    constructor
    · rintro ⟨⟨h1, h2⟩, h3⟩
      exact ⟨h1, h2, fun a ha => by have := h3 a ha; omega⟩
    · rintro ⟨h1, h2, h3⟩
      exact ⟨⟨h1, h2⟩, fun a ha => by have := h3 a ha; omega⟩
theorem kind_facts : ∀ p ∈ kindL, 1 ≤ p.1 ∧ p.1 ≤ 52 ∧ 0 ≤ p.2.1 ∧ p.2.1 ≤ 2 ∧ -2 ≤ p.2.2 ∧ p.2.2 ≤ 3 := by decide
theorem kind_rng {op : Int} {kd : Int × Int} (h : gkind op = some kd) : 1 ≤ op ∧ op ≤ 52 ∧ 0 ≤ kd.1 ∧ kd.1 ≤ 2 ∧ -2 ≤ kd.2 ∧ kd.2 ≤ 3 := kind_facts _ (gkind_mem h)
theorem numsB_len {k : Int} {s : List Int} (h : numsB k s = true) (hk : k ≤ 3) : s.length ≤ 4 := by
  unfold numsB at h
  split at h
  · simp only [Bool.and_eq_true] at h
    have := chk_len h.2
    simp at this
    omega
  · split at h
    · have := chk_len h
      omega
    · simp at h
      omega
theorem node_len {i : Int} {n : S48} (h : nodeW i n = true) : 1 ≤ n.f0 ∧ n.f0 ≤ 52 ∧ n.f1.length ≤ 2 ∧ n.f2.length ≤ 4 := by
  obtain ⟨kd, h1, h2, h3, h4⟩ := nodeW_iff.mp h
  obtain ⟨r1, r2, r3, r4, r5, r6⟩ := kind_rng h1
  exact ⟨r1, r2, by omega, numsB_len h3 r6⟩
theorem GOk.mem {l : List S48} (h : GOk l) {n : S48} (hn : n ∈ l) : ∃ j : Nat, j < l.length ∧ l[j]? = some n ∧ nodeW j n = true := by
  obtain ⟨j, hj⟩ := List.getElem?_of_mem hn
  exact ⟨j, (List.getElem?_eq_some_iff.1 hj).1, hj, h.node j n hj⟩
theorem rdN {l : List S48} {i : Nat} (h : i < l.length) : rd_T48 l (i : Int) = l[i] := by simp [rd_T48, List.getD_eq_getElem?_getD, h]
end Go.Proofs.Ytjcgadfmhfhbgaa.Plain
