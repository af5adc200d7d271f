/- Versions that are trimmed, cut, and put one behind the other, in plain words; no conditions. -/
import Derived.Test.YtdjlpbekoggmiaaChainB
namespace Go.Proofs.Ytdjlpbekoggmiaa.Plain
open Go.RowKit Go.Proofs.Ytdjlpbekoggmiaa.A Go.Proofs.YtdjlpbekoggmiaaW.PrintWords Go.Proofs.YtdjlpbekoggmiaaW.PrintLast Go.Proofs.YtdjlpbekoggmiaaW.PrintMore
theorem bh_zero {l : List S41} {p a : Int} (h : asc p l = true) (ha : a ≤ p) : bh l a = 0 := by
  cases l with
  | nil => rfl
  | cons v r =>
    simp only [asc, Bool.and_eq_true, decide_eq_true_eq] at h
    rw [bh_cons, if_neg (by omega)]
theorem bh_drop : ∀ {l : List S41} {p a : Int} (j : Nat), asc p l = true → bh (l.drop j) a = bh l a - j
  | [], _, _, j, _ => by simp [bh]
  | v :: r, p, a, 0, _ => by simp
  | v :: r, p, a, j + 1, h => by
    simp only [asc, Bool.and_eq_true, decide_eq_true_eq] at h
    rw [List.drop_succ_cons, bh_drop j h.2, bh_cons]
    by_cases hv : v.f0 ≤ a
    · rw [if_pos hv]; omega
    · rw [if_neg hv, bh_zero h.2 (by omega)]; omega
theorem bh_take : ∀ (l : List S41) (a : Int) (c : Nat), bh (l.take c) a = min (bh l a) c
  | [], _, _ => by simp [bh]
  | v :: r, a, 0 => by simp [bh]
  | v :: r, a, c + 1 => by
    rw [List.take_succ_cons, bh_cons, bh_cons, bh_take r a c]
    by_cases hv : v.f0 ≤ a
    · rw [if_pos hv, if_pos hv]; omega
    · rw [if_neg hv, if_neg hv]; omega
theorem bh_mono : ∀ (l : List S41) {a b : Int}, a ≤ b → bh l a ≤ bh l b
  | [], _, _, _ => by simp [bh]
  | v :: r, a, b, h => by
    rw [bh_cons, bh_cons]
    have := bh_mono r h
    by_cases h1 : v.f0 ≤ a
    · rw [if_pos h1, if_pos (by omega)]; omega
    · rw [if_neg h1]; omega
theorem asc_drop : ∀ {l : List S41} {p : Int} (j : Nat), asc p l = true → asc p (l.drop j) = true
  | [], _, j, _ => by simp [asc]
  | v :: r, p, 0, h => h
  | v :: r, p, j + 1, h => by
    simp only [asc, Bool.and_eq_true, decide_eq_true_eq] at h
    exact asc_weak (asc_drop j h.2) (by omega)
theorem asc_take : ∀ {l : List S41} {p : Int} (c : Nat), asc p l = true → asc p (l.take c) = true
  | [], _, _, _ => by simp [asc]
  | v :: r, p, 0, _ => by simp [asc]
  | v :: r, p, c + 1, h => by
    simp only [asc, Bool.and_eq_true, decide_eq_true_eq, List.take_succ_cons] at h ⊢
    exact ⟨h.1, asc_take c h.2⟩
theorem vchk_sub {l m : List S41} (h : vchk l = true) (hl : m.length ≤ l.length) (hm : ∀ v ∈ m, v ∈ l) (ha : asc (-1) m = true) : vchk m = true := by
  obtain ⟨h1, h2, h3⟩ := vchk_iff.mp h
  have each : ∀ v ∈ m, v.f1.f0 = hd l := fun v hv => by
    have := h3 v (hm v hv)
    simp only [good, Bool.and_eq_true, decide_eq_true_eq] at this
    exact this.2
  refine vchk_iff.mpr ⟨by omega, ha, fun v hv => ?_⟩
  have e : hd m = hd l := by
    cases m with
    | nil => cases hv
    | cons w r => exact each w List.mem_cons_self
  rw [e]
  exact h3 v (hm v hv)
theorem vchk_drop {l : List S41} (h : vchk l = true) (j : Nat) : vchk (l.drop j) = true := vchk_sub h (by simp) (fun v hv => List.mem_of_mem_drop hv) (asc_drop j (vchk_iff.mp h).2.1)
theorem vchk_take {l : List S41} (h : vchk l = true) (c : Nat) : vchk (l.take c) = true := vchk_sub h (by simp; omega) (fun v hv => List.mem_of_mem_take hv) (asc_take c (vchk_iff.mp h).2.1)
theorem rdv_alike {l m : List S41} {a b : Int} (hl : vchk l = true) (hm : vchk m = true) (h0 : bh l a = 0 ↔ bh m b = 0) (he : ∀ (h1 : 0 < bh l a) (h2 : 0 < bh m b), l[bh l a - 1]'(by have := bh_le l a; omega) = m[bh m b - 1]'(by have := bh_le m b; omega)) : rdv l a = rdv m b := by
  by_cases h : bh l a = 0
  · rw [rdv_none h, rdv_none (h0.mp h)]
  · have h2 : bh m b ≠ 0 := fun e => h (h0.mpr e)
    rw [rdv_ok hl (by omega), rdv_ok hm (by omega), he (by omega) (by omega)]
theorem rdv_trim {l : List S41} {a b : Int} (h : vchk l = true) (hab : a ≤ b) : rdv (tr l a) b = rdv l b := by
  have ha := (vchk_iff.mp h).2.1
  have hm := bh_mono l hab
  have hle := bh_le l b
  have hd := bh_drop (a := b) (bh l a - 1) ha
  have e : tr l a = l.drop (bh l a - 1) := by unfold tr; rw [if_pos h]
  rw [e]
  refine rdv_alike (vchk_drop h _) h (by omega) (fun h1 h2 => ?_)
  rw [List.getElem_drop]
  congr 1
  omega
/-- How many stamps are not above one. -/
def cnt (a : Int) : List S41 → Int
  | [] => 0
  | v :: r => (if v.f0 ≤ a then 1 else 0) + cnt a r
theorem cnt_asc : ∀ {l : List S41} {p : Int} (a : Int), asc p l = true → cnt a l = bh l a
  | [], _, _, _ => rfl
  | v :: r, p, a, h => by
    simp only [asc, Bool.and_eq_true, decide_eq_true_eq] at h
    rw [cnt, bh_cons, cnt_asc a h.2]
    by_cases hv : v.f0 ≤ a
    · rw [if_pos hv, if_pos hv]; omega
    · rw [if_neg hv, if_neg hv, bh_zero h.2 (by omega)]; omega
theorem cnt_bound : ∀ (a : Int) (l : List S41), 0 ≤ cnt a l ∧ cnt a l ≤ l.length
  | a, [] => by simp [cnt]
  | a, v :: r => by
    have := cnt_bound a r
    simp only [cnt, List.length_cons]
    split <;> omega
theorem bh_eq : ∀ (l : List S41) (a : Int) (n : Nat), n ≤ l.length → (∀ (j : Nat) (h : j < l.length), j < n → l[j].f0 ≤ a) → (∀ h : n < l.length, a < l[n].f0) → bh l a = n
  | [], _, n, hn, _, _ => by simp at hn; subst hn; rfl
  | v :: r, a, 0, _, _, h2 => by
    have := h2 (by simp)
    simp only [List.getElem_cons_zero] at this
    rw [bh_cons, if_neg (by omega)]
  | v :: r, a, n + 1, hn, h1, h2 => by
    have h0 := h1 0 (by simp) (by omega)
    simp only [List.getElem_cons_zero] at h0
    rw [bh_cons, if_pos h0, bh_eq r a n (by simpa using hn) (fun j hj hjn => by have := h1 (j + 1) (by simpa using hj) (by omega); simpa using this) (fun h => by have := h2 (by simpa using h); simpa using this)]
theorem asc_lt {l : List S41} {p : Int} (h : asc p l = true) : ∀ (i j : Nat) (hj : j < l.length) (hij : i < j), (l[i]'(by omega)).f0 < l[j].f0 := by
  intro i j hj hij
  have h1 := asc_drop i h
  rw [List.drop_eq_getElem_cons (by omega)] at h1
  simp only [asc, Bool.and_eq_true, decide_eq_true_eq] at h1
  refine asc_mono h1.2 _ ?_
  rw [List.mem_iff_getElem]
  exact ⟨j - (i + 1), by simp; omega, by rw [List.getElem_drop]; congr 1; omega⟩
theorem bh_at {l : List S41} {p : Int} (h : asc p l = true) (i : Nat) (hi : i < l.length) : bh l l[i].f0 = i + 1 := by
  refine bh_eq l _ (i + 1) (by omega) (fun j hj hji => ?_) (fun h2 => asc_lt h i (i + 1) h2 (by omega))
  rcases Nat.lt_or_ge j i with hlt | hge
  · exact Int.le_of_lt (asc_lt h j i hi hlt)
  · obtain rfl : j = i := by omega
    exact Int.le_refl _
theorem bh_under {l : List S41} {p : Int} (h : asc p l = true) (i : Nat) (hi : i < l.length) : bh l (l[i].f0 - 1) = i := by
  refine bh_eq l _ i (by omega) (fun j hj hji => ?_) (fun h2 => by omega)
  have := asc_lt h j i hi hji
  omega
end Go.Proofs.Ytdjlpbekoggmiaa.Plain
