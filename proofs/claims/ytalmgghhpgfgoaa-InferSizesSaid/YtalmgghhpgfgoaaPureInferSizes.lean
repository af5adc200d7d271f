/- For all shapes and numbers InferSizes answers true; no conditions but the sizes that the statement names. -/
import Derived.Test.YtalmgghhpgfgoaaAx22
import Derived.Test.YtalmgghhpgfgoaaAx10
import Derived.Test.YtalmgghhpgfgoaaInfS
namespace Go.Proofs.Ytalmgghhpgfgoaa.Pure
open Go.RowKit Go.Proofs.Ytalmgghhpgfgoaa.A Go.Proofs.YtalmgghhpgfgoaaW.PrintWords Go.Proofs.YtalmgghhpgfgoaaW.PrintLast Go.Proofs.YtalmgghhpgfgoaaW.PrintMore Go.Proofs.Ytalmgghhpgfgoaa.Plain
set_option linter.unusedVariables false
set_option linter.unusedSimpArgs false
theorem awake_f (k : Nat) (hk : 300 ≤ k) : fullerlaw11_awake.f k = some true := at_rounds fullerlaw11_awake.mono hk (by decide +kernel)

theorem one_node {op : Int} {nums : List Int} {x : List Int} (ha : arity op = 1) (hn : numsW op nums = true) : nodeF op nums [x] = if chk x = true then nodeS op nums [x] else ([], 20) := by
  unfold nodeF
  rw [ha]
  cases hc : chk x <;> simp [hn, hc]
theorem turn_sizes (x : List Int) (h : (nodeF 41 [] [x]).2 = 0) : siz (nodeF 41 [] [x]).1 = siz x := by
  rw [one_node rfl rfl] at h ⊢
  by_cases c : chk x = true
  · rw [if_pos c]
    show siz x.reverse = siz x
    unfold siz
    rw [if_pos c, if_pos (chk_rev c), prod_reverse]
  · rw [if_neg c] at h; exact absurd h (by decide)
theorem again_sizes (y x : List Int) (h : (nodeF 40 y [x]).2 = 0) : (nodeF 40 y [x]).1 = y ∧ chk (nodeF 40 y [x]).1 = true ∧ siz (nodeF 40 y [x]).1 = siz x := by
  rcases nodeF_chk 40 y [x] with g | g
  · have e : nodeF 40 y [x] = told y (decide (siz y = siz x)) := by
      unfold nodeF at h ⊢
      split at h
      · rename_i q; rw [if_pos q]; rfl
      · exact absurd h (by decide)
    have g2 := g.2
    rw [e] at h g2 ⊢
    unfold told at h g2 ⊢
    split at h
    · rename_i q
      rw [if_pos q] at g2 ⊢
      exact ⟨rfl, g2, by simpa using q.1⟩
    · exact absurd h (by decide)
  · rw [g] at h; exact absurd h (by decide)
theorem behind_sizes (x y : List Int) (p : Int) (h : (nodeF 43 [p] [x, y]).2 = 0) : siz (nodeF 43 [p] [x, y]).1 = siz x + siz y := by
  rcases nodeF_chk 43 [p] [x, y] with g | g
  · have g2 := g.2
    unfold nodeF at h g2 ⊢
    split at h
    · rename_i q
      rw [if_pos q] at g2 ⊢
      have hs := q.2.2
      simp only [List.all_cons, List.all_nil, Bool.and_true, Bool.and_eq_true] at hs
      have e : nodeS 43 [p] [x, y] = if 0 ≤ p ∧ p < (x.length : Int) then (if x.length = y.length ∧ x.set p.toNat (rd y p) = y then told (x.set p.toNat (rd x p + rd y p)) true else ([], 20)) else ([], 20) := rfl
      rw [e] at h g2 ⊢
      split at h
      · rename_i c
        rw [if_pos c] at g2 ⊢
        split at h
        · rename_i d
          rw [if_pos d] at g2 ⊢
          obtain ⟨i, hi⟩ := Int.eq_ofNat_of_zero_le c.1
          rw [hi] at h g2 d c ⊢
          rw [Int.toNat_natCast] at h g2 d ⊢
          have hil : i < x.length := by omega
          unfold told at h g2 ⊢
          split at h
          · rename_i u
            rw [if_pos u] at g2 ⊢
            show siz (x.set i (rd x (i : Int) + rd y (i : Int))) = siz x + siz y
            unfold siz
            rw [if_pos u.2, if_pos hs.1, if_pos hs.2, prod_set hil]
            have ex : prod x = prod (x.take i) * (rd x (i : Int) * prod (x.drop (i + 1))) := by
              conv => lhs; rw [← self_set hil]
              exact prod_set hil _
            have ey : prod y = prod (x.take i) * (rd y (i : Int) * prod (x.drop (i + 1))) := by
              conv => lhs; rw [← d.2]
              exact prod_set hil _
            rw [ex, ey, Int.add_mul, Int.mul_add]
          · exact absurd h (by decide)
        · exact absurd h (by decide)
      · exact absurd h (by decide)
    · exact absurd h (by decide)
  · rw [g] at h; exact absurd h (by decide)
theorem sum_sizes (x : List Int) (p : Int) : ((nodeF 50 [p] [x]).2 = 0 ↔ chk x = true ∧ 0 ≤ p ∧ p < (x.length : Int)) ∧ ((nodeF 50 [p] [x]).2 = 0 → ((nodeF 50 [p] [x]).1.length : Int) = (x.length : Int) - 1) := by
  rw [one_node rfl rfl]
  by_cases c : chk x = true
  · rw [if_pos c]
    have e : nodeS 50 [p] [x] = if 0 ≤ p ∧ p < (x.length : Int) then (x.take p.toNat ++ x.drop (p.toNat + 1), 0) else ([], 20) := rfl
    rw [e]
    by_cases d : 0 ≤ p ∧ p < (x.length : Int)
    · rw [if_pos d]
      refine ⟨⟨fun _ => ⟨c, d.1, d.2⟩, fun _ => rfl⟩, fun _ => ?_⟩
      simp
      omega
    · rw [if_neg d]
      exact ⟨⟨fun h => absurd h (by decide), fun h => absurd h.2 d⟩, fun h => absurd h (by decide)⟩
  · rw [if_neg c]
    exact ⟨⟨fun h => absurd h (by decide), fun h => absurd h.1 c⟩, fun h => absurd h (by decide)⟩
theorem part_sizes (x : List Int) (p q : Int) (h : (nodeF 42 [p, 0, q] [x]).2 = 0) : siz (nodeF 42 [p, 0, q] [x]).1 ≤ siz x ∧ (nodeF 42 [p, 0, q] [x]).1.length = x.length := by
  rw [one_node rfl rfl] at h ⊢
  by_cases c : chk x = true
  · rw [if_pos c] at h ⊢
    have e : nodeS 42 [p, 0, q] [x] = if 0 ≤ p ∧ p < (x.length : Int) then (if (0 : Int) < 0 ∨ (0 : Int) ≥ q ∨ q > rd x p then ([], 20) else (x.set p.toNat (q - 0), 0)) else ([], 20) := rfl
    rw [e] at h ⊢
    split at h
    · rename_i d
      rw [if_pos d]
      split at h
      · exact absurd h (by decide)
      · rename_i u
        rw [if_neg u]
        obtain ⟨i, hi⟩ := Int.eq_ofNat_of_zero_le d.1
        rw [hi] at d u ⊢
        rw [Int.toNat_natCast]
        have hil : i < x.length := by omega
        have := chk_set c hil (v := q - 0) (by omega) (by omega)
        refine ⟨?_, by simp⟩
        show siz (x.set i (q - 0)) ≤ siz x
        unfold siz
        rw [if_pos c, if_pos this.1]
        exact this.2
    · exact absurd h (by decide)
  · rw [if_neg c] at h; exact absurd h (by decide)
theorem InferSizes : fullerlaw11_InferSizes.Pure := by
  intro x y p q hx hy hp hq
  refine ⟨1000, ?_⟩
  unfold fullerlaw11_InferSizes.f
  rw [awake_f _ (by omega)]
  simp only [Option.bind_some]
  have out : fullerlaw11_InferSizes.j0 1000 x y p q true true = some true := by
    rw [show 1000 = 999 + 1 from rfl, fullerlaw11_InferSizes.j0, if_pos rfl]
  have main : fullerlaw11_InferSizes.j0 1000 x y p q true false = some true := by
    have f1 := turn_sizes x
    have f2 := again_sizes y x
    have f3 := behind_sizes x y p
    have f4 := sum_sizes x p
    have f6 := part_sizes x p q
    rw [show 1000 = 997 + 3 from rfl, fullerlaw11_InferSizes.j0, if_neg (by decide), node_f _ _ _ _ _ (by omega), node_f _ _ _ _ _ (by omega), node_f _ _ _ _ _ (by omega), node_f _ _ _ _ _ (by omega), node_f _ _ _ _ _ (by omega)]
    simp only [Option.bind_some]
    generalize nodeF 41 [] [x] = a1 at f1 ⊢
    generalize nodeF 40 y [x] = a2 at f2 ⊢
    generalize nodeF 43 [p] [x, y] = a3 at f3 ⊢
    generalize nodeF 50 [p] [x] = a4 at f4 ⊢
    generalize nodeF 42 [p, 0, q] [x] = a5 at f6 ⊢
    have j2 : fullerlaw11_InferSizes.j2 998 x y p true a3.1 a3.2 a4.1 a4.2 a5.1 a5.2 true true = some true := by
      rw [show 998 = 997 + 1 from rfl, fullerlaw11_InferSizes.j2]
      simp only [size_f _ 997 (by omega), check_f _ 997 (by omega), Option.bind_some]
      have sx : 0 ≤ siz x ∧ siz x ≤ 64 := ⟨siz_nonneg x, siz_le x⟩
      have sy : 0 ≤ siz y ∧ siz y ≤ 64 := ⟨siz_nonneg y, siz_le y⟩
      have w1 : wrap64 (siz x + siz y) = siz x + siz y := w64 (by omega) (by omega)
      obtain ⟨g1, g2⟩ := f4
      by_cases hc : chk x = true
      · have hl := chk_len hc
        have w2 : wrap64 ((x.length : Int) - 1) = (x.length : Int) - 1 := w64 (by omega) (by omega)
        by_cases h4 : a4.2 = 0
        · obtain ⟨_, h5, h6⟩ := g1.mp h4
          have h7 := g2 h4
          by_cases h3 : a3.2 = 0
          · by_cases h8 : a5.2 = 0
            · simp [h3, hc, h4, h5, h6, h7, h8, f3 h3, w1, w2, f6 h8]
            · simp [h3, hc, h4, h5, h6, h7, h8, f3 h3, w1, w2]
          · by_cases h8 : a5.2 = 0
            · simp [h3, hc, h4, h5, h6, h7, h8, w2, f6 h8]
            · simp [h3, hc, h4, h5, h6, h7, h8, w2]
        · have h5 : ¬ (0 ≤ p ∧ p < (x.length : Int)) := fun e => h4 (g1.mpr ⟨hc, e.1, e.2⟩)
          have h9 : (a4.2 == 0) = false := beq_eq_false_iff_ne.mpr h4
          by_cases h6 : 0 ≤ p
          · have h7 : ¬ p < (x.length : Int) := fun e => h5 ⟨h6, e⟩
            by_cases h3 : a3.2 = 0
            · by_cases h8 : a5.2 = 0
              · simp [h3, hc, h4, h6, h7, h8, h9, f3 h3, w1, f6 h8]
              · simp [h3, hc, h4, h6, h7, h8, h9, f3 h3, w1]
            · by_cases h8 : a5.2 = 0
              · simp [h3, hc, h4, h6, h7, h8, h9, f6 h8]
              · simp [h3, hc, h4, h6, h7, h8, h9]
          · by_cases h3 : a3.2 = 0
            · by_cases h8 : a5.2 = 0
              · simp [h3, hc, h4, h6, h8, h9, f3 h3, w1, f6 h8]
              · simp [h3, hc, h4, h6, h8, h9, f3 h3, w1]
            · by_cases h8 : a5.2 = 0
              · simp [h3, hc, h4, h6, h8, h9, f6 h8]
              · simp [h3, hc, h4, h6, h8, h9]
      · have h4 : ¬ a4.2 = 0 := fun e => hc (g1.mp e).1
        have h9 : (a4.2 == 0) = false := beq_eq_false_iff_ne.mpr h4
        by_cases h3 : a3.2 = 0
        · by_cases h8 : a5.2 = 0
          · simp [h3, hc, h4, h8, h9, f3 h3, w1, f6 h8]
          · simp [h3, hc, h4, h8, h9, f3 h3, w1]
        · by_cases h8 : a5.2 = 0
          · simp [h3, hc, h4, h8, h9, f6 h8]
          · simp [h3, hc, h4, h8, h9]
    have j1 : fullerlaw11_InferSizes.j1 999 x y p true a2.1 a2.2 a3.1 a3.2 a4.1 a4.2 a5.1 a5.2 true = some true := by
      rw [show 999 = 998 + 1 from rfl, fullerlaw11_InferSizes.j1]
      by_cases h : a2.2 = 0
      · obtain ⟨e1, e2⟩ := f2 h
        rw [if_pos h, size_f _ _ (by omega), size_f _ _ (by omega)]
        simp only [Option.bind_some]
        have hl : y.length ≤ 100 := by have := e1 ▸ e2.1; exact Nat.le_trans (chk_len this) (by omega)
        rw [if_pos e2.2, same_f _ _ (by rw [e1]; omega) _ (by rw [e1]; omega), e1]
        simp only [Option.bind_some, decide_true]
        exact j2
      · rw [if_neg h]
        exact j2
    by_cases h : a1.2 = 0
    · rw [if_pos h, size_f _ _ (by omega), size_f _ _ (by omega)]
      simp only [Option.bind_some]
      rw [f1 h, show (siz x == siz x) = true from beq_self_eq_true _]
      exact j1
    · rw [if_neg h]
      exact j1
  by_cases h1 : (x.length : Int) > 100
  · rw [if_pos h1]; exact out
  · rw [if_neg h1]
    by_cases h2 : (y.length : Int) > 100
    · rw [decide_eq_true h2]; exact out
    · rw [decide_eq_false h2]; exact main
end Go.Proofs.Ytalmgghhpgfgoaa.Pure
