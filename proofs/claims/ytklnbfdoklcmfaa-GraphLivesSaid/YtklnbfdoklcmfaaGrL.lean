/- GraphLives, loop by loop, in plain words; no conditions. -/
import Derived.Test.YtklnbfdoklcmfaaGrB
import Derived.Test.YtklnbfdoklcmfaaAx19
namespace Go.Proofs.Ytklnbfdoklcmfaa.Plain
open Go.RowKit Go.Proofs.Ytklnbfdoklcmfaa.A Go.Proofs.YtklnbfdoklcmfaaW.PrintWords Go.Proofs.YtklnbfdoklcmfaaW.PrintLast Go.Proofs.YtklnbfdoklcmfaaW.PrintMore
set_option linter.unusedVariables false
set_option linter.unusedSimpArgs false
theorem wm1 {x : Nat} (h : x < 1000000) : wrap64 ((x : Int) - 1) = (x : Int) - 1 := w64 (by omega) (by omega)
theorem lives_l1 (l : List S35) (hG : GOk l) (i : Nat) (hi : i < l.length) (U : List Int) (hU : U = useG (i : Int) 0 l) (M : Nat) (hn : ∀ k, M ≤ k → fullerlaw10_GraphLives.l0 k l true (liveF l) (wrap64 ((i : Int) + 1)) = some true) (d : Nat) : ∀ (k j : Nat) (b : Bool), U.length - j = d → j ≤ U.length → (b || (U.drop j).any fun x => decide (x ∈ liveF l)) = decide ((i : Int) ∈ liveF l) → M + d + 60 ≤ k →
    fullerlaw10_GraphLives.l1 k l true (liveF l) (i : Int) U b (j : Int) = some true := by
  have h24 := hG.le
  have hll := liveF_len l
  have hul := useG_len hG (i : Int)
  rw [← hU] at hul
  induction d with
  | zero =>
    intro k j b hd hj hb hk
    obtain ⟨k, rfl⟩ : ∃ q, k = q + 1 := ⟨k - 1, by omega⟩
    rw [List.drop_eq_nil_of_le (by omega)] at hb
    simp only [List.any_nil, Bool.or_false] at hb
    rw [fullerlaw10_GraphLives.l1, if_neg (by omega), in_f _ _ (by omega) k (by omega), Option.bind_some, ← hb, if_neg (by simp), hn k (by omega)]
  | succ d ih =>
    intro k j b hd hj hb hk
    obtain ⟨k, rfl⟩ : ∃ q, k = q + 1 := ⟨k - 1, by omega⟩
    have hjl : j < U.length := by omega
    have hmem : U[j] ∈ useG (i : Int) 0 l := hU ▸ List.getElem_mem hjl
    obtain ⟨g, n, g1, g2, g3⟩ := useG_mem.mp hmem
    have hlt := hG.args g n g1 _ g3
    have hr : ¬ U[j] ≤ (i : Int) := by omega
    have step : ∀ b', (b' || (U.drop (j + 1)).any fun x => decide (x ∈ liveF l)) = decide ((i : Int) ∈ liveF l) → fullerlaw10_GraphLives.l1 k l true (liveF l) (i : Int) U b' (wrap64 ((j : Int) + 1)) = some true := by
      intro b' hb'
      rw [w1n (x := j) (by omega)]
      exact ih k (j + 1) b' (by omega) (by omega) hb' (by omega)
    have hprev : (j : Int) > 0 → (0 ≤ wrap64 ((j : Int) - 1) ∧ wrap64 ((j : Int) - 1) < (U.length : Int) ∧ ¬ rd U (j : Int) < rd U (wrap64 ((j : Int) - 1))) := by
      intro h0
      obtain ⟨q, rfl⟩ : ∃ q, j = q + 1 := ⟨j - 1, by omega⟩
      have e : wrap64 (((q + 1 : Nat) : Int) - 1) = (q : Int) := by rw [wm1 (x := q + 1) (by omega)]; omega
      rw [e]
      refine ⟨by omega, by omega, ?_⟩
      rw [rd_lt hjl, rd_lt (show q < U.length by omega)]
      have hp := (useG_rises (i : Int) l 0).1
      rw [← hU] at hp
      have := List.pairwise_iff_getElem.mp hp q (q + 1) (by omega) hjl (by omega)
      omega
    rw [List.drop_eq_getElem_cons hjl, List.any_cons] at hb
    rw [fullerlaw10_GraphLives.l1, if_pos (by omega)]
    cases b with
    | true =>
      rw [if_pos rfl, if_pos (by omega), rd_lt hjl, if_neg hr]
      have hs := step true (by rw [← hb]; rfl)
      by_cases h0 : (j : Int) > 0
      · obtain ⟨p1, p2, p3⟩ := hprev h0
        rw [rd_lt hjl] at p3
        rw [if_pos h0, if_pos p1, if_pos p2, if_neg p3, hs]
      · rw [if_neg h0, hs]
    | false =>
      rw [if_neg (by decide), if_pos (by omega), rd_lt hjl, in_f _ _ (by omega) k (by omega), Option.bind_some, if_neg hr]
      have hs := step (decide (U[j] ∈ liveF l)) (by rw [← hb]; rfl)
      by_cases h0 : (j : Int) > 0
      · obtain ⟨p1, p2, p3⟩ := hprev h0
        rw [rd_lt hjl] at p3
        rw [if_pos h0, if_pos p1, if_pos p2, if_neg p3, hs]
      · rw [if_neg h0, hs]
theorem lives_l0 (l : List S35) (hG : GOk l) (d : Nat) : ∀ (k i : Nat), l.length - i = d → i ≤ l.length → 200 * d + 1200 ≤ k →
    fullerlaw10_GraphLives.l0 k l true (liveF l) (i : Int) = some true := by
  have h24 := hG.le
  have h0 := hG.pos
  induction d with
  | zero =>
    intro k i hd hi hk
    obtain ⟨k, rfl⟩ : ∃ q, k = q + 1 := ⟨k - 1, by omega⟩
    obtain ⟨t, ht⟩ := live_last h0
    have hl := liveF_len l
    have hlen : (liveF l).length = t.length + 1 := by rw [ht]; simp
    have e : wrap64 (((liveF l).length : Int) - 1) = (t.length : Int) := by rw [wm1 (by omega)]; omega
    rw [fullerlaw10_GraphLives.l0, if_neg (by omega), if_pos rfl, if_pos (by omega), e, if_pos (by omega), if_pos (by omega), wm1 (by omega), rd_lt (by omega)]
    have : (liveF l)[t.length]'(by omega) = (l.length : Int) - 1 := by
      have : (liveF l)[t.length]? = some ((l.length : Int) - 1) := by rw [ht]; simp
      exact (List.getElem?_eq_some_iff.mp this).2
    rw [this, beq_self_eq_true]
  | succ d ih =>
    intro k i hd hi hk
    obtain ⟨k, rfl⟩ : ∃ q, k = q + 1 := ⟨k - 1, by omega⟩
    have hil : i < l.length := by omega
    have hul := useG_len hG (i : Int)
    rw [fullerlaw10_GraphLives.l0, if_pos (by omega), uses_f l _ k (by omega), gchk_iff.mpr hG, if_pos rfl, Option.bind_some, wm1 (by omega)]
    have := lives_l1 l hG i hil _ rfl (200 * d + 1200) (fun k hk => by rw [w1n (x := i) (by omega)]; exact ih k (i + 1) (by omega) (by omega) hk) (useG (i : Int) 0 l).length k 0 ((i : Int) == (l.length : Int) - 1) (by omega) (by omega) ?_ (by omega)
    · exact this
    · obtain ⟨_, hs⟩ := live_spec hG.args h0
      rw [Bool.eq_iff_iff]
      simp only [List.drop_zero, Bool.or_eq_true, beq_iff_eq, List.any_eq_true, decide_eq_true_eq]
      rw [hs (i : Int)]
      constructor
      · intro h
        exact ⟨⟨by omega, by omega⟩, h⟩
      · rintro ⟨_, h⟩
        exact h
end Go.Proofs.Ytklnbfdoklcmfaa.Plain
