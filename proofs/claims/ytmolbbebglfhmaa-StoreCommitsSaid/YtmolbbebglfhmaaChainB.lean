/- More on versions, in plain words: one more, trimmed, cut; no conditions. -/
import Derived.Test.YtmolbbebglfhmaaChainA
namespace Go.Proofs.Ytmolbbebglfhmaa.Plain
open Go.RowKit Go.Proofs.Ytmolbbebglfhmaa.A Go.Proofs.YtmolbbebglfhmaaW.PrintWords Go.Proofs.YtmolbbebglfhmaaW.PrintLast Go.Proofs.YtmolbbebglfhmaaW.PrintMore
theorem rdv_len (l : List S74) (a : Int) : (rdv l a).1.length ≤ 3 ∧ (rdv l a).2.1.length ≤ 64 := by
  by_cases h0 : bh l a = 0
  · rw [rdv_none h0]; simp
  · cases hv : vchk l with
    | false => simp [rdv, hv]
    | true =>
      rw [rdv_ok hv (by omega)]
      exact vchk_elem hv (List.getElem_mem _)
theorem asc_append : ∀ {l r : List S74} {p : Int}, asc p (l ++ r) = true ↔ asc p l = true ∧ asc (match l.getLast? with | some v => v.f0 | none => p) r = true
  | [], r, p => by simp [asc]
  | [v], r, p => by simp [asc]
  | v :: w :: l, r, p => by
    have := asc_append (l := w :: l) (r := r) (p := v.f0)
    have e : (match (w :: l).getLast? with | some v => v.f0 | none => v.f0) = (match (w :: l).getLast? with | some v => v.f0 | none => p) := by
      obtain ⟨u, hu⟩ : ∃ u, (w :: l).getLast? = some u := ⟨_, List.getLast?_eq_some_getLast (by simp)⟩
      rw [hu]
    have c : ∀ (x : S74) (m : List S74) (q : Int), (asc q (x :: m) = true) = ((decide (q < x.f0) && asc x.f0 m) = true) := fun _ _ _ => rfl
    rw [List.cons_append, c, Bool.and_eq_true, this, c v (w :: l), Bool.and_eq_true, List.getLast?_cons_cons, and_assoc, e]
theorem pv_cases (l : List S74) (st : Int) (s d : List Int) (hv : vchk l = true) :
    ((pv l st s d).1 = l ∧ ¬ (pv l st s d).2 = 0) ∨ (pv l st s d = (l ++ [⟨st, ⟨s, d⟩⟩], 0) ∧ (tchk s d = true ∧ (0 < l.length → hd l = s) ∧ l.length < 16) ∧ asc (match l.getLast? with | some v => v.f0 | none => -1) [⟨st, ⟨s, d⟩⟩] = true) := by
  have hl16 := (vchk_iff.mp hv).1
  unfold pv
  by_cases h1 : (decide (st < 0) || (!vchk l || late l st)) = true
  · rw [if_pos h1]; exact .inl ⟨rfl, by simp⟩
  · rw [if_neg h1]
    by_cases h2 : tchk s d = false
    · rw [if_pos h2]; exact .inl ⟨rfl, by simp⟩
    · rw [if_neg h2]
      by_cases h3 : (decide (0 < l.length) && !decide (hd l = s)) = true
      · rw [if_pos h3]; exact .inl ⟨rfl, by simp⟩
      · rw [if_neg h3]
        by_cases h4 : l.length = 16
        · rw [if_pos h4]; exact .inl ⟨rfl, by simp⟩
        · rw [if_neg h4]
          refine .inr ⟨rfl, ⟨by simpa using h2, fun h0 => ?_, by omega⟩, ?_⟩
          · by_cases he : hd l = s
            · exact he
            · exact absurd (by simp [h0, he]) h3
          · simp only [asc, Bool.and_true, decide_eq_true_eq]
            simp only [Bool.or_eq_true, decide_eq_true_eq, not_or, hv] at h1
            obtain ⟨h0, _, hla⟩ := h1
            unfold late at hla
            cases hg : l.getLast? with
            | none => simp only; omega
            | some v => rw [hg] at hla; simp at hla; simp only; omega
theorem vchk_snoc {l : List S74} {st : Int} {s d : List Int} (hv : vchk l = true) (hg : tchk s d = true ∧ (0 < l.length → hd l = s) ∧ l.length < 16)
    (ha : asc (match l.getLast? with | some v => v.f0 | none => -1) [⟨st, ⟨s, d⟩⟩] = true) : vchk (l ++ [⟨st, ⟨s, d⟩⟩]) = true := by
  obtain ⟨h1, h2, h3⟩ := vchk_iff.mp hv
  have hh : hd (l ++ [⟨st, ⟨s, d⟩⟩]) = s := by
    cases l with
    | nil => rfl
    | cons v r => exact hg.2.1 (by simp)
  refine vchk_iff.mpr ⟨by simp; omega, asc_append.mpr ⟨h2, ha⟩, fun v hv => ?_⟩
  rw [hh]
  rcases List.mem_append.1 hv with hv | hv
  · have := h3 v hv
    rwa [hg.2.1 (List.length_pos_of_mem hv)] at this
  · obtain rfl := List.mem_singleton.1 hv
    simp [good, hg.1]
theorem bh_app : ∀ {l r : List S74} {a : Int}, bh (l ++ r) a = if bh l a = l.length then l.length + bh r a else bh l a
  | [], r, a => by simp [bh]
  | v :: l, r, a => by
    rw [List.cons_append, bh_cons, bh_cons, bh_app]
    by_cases hv : v.f0 ≤ a
    · rw [if_pos hv, if_pos hv, List.length_cons]
      by_cases h : bh l a = l.length
      · rw [if_pos h, if_pos (by omega)]; omega
      · rw [if_neg h, if_neg (by omega)]
    · rw [if_neg hv, if_neg hv, if_neg (by simp)]
theorem bh_all {l : List S74} {a : Int} (h : ∀ v ∈ l, v.f0 ≤ a) : bh l a = l.length := by
  induction l with
  | nil => rfl
  | cons v r ih => rw [bh_cons, if_pos (h v List.mem_cons_self), ih (fun w hw => h w (List.mem_cons_of_mem _ hw)), List.length_cons]
theorem asc_last : ∀ {l : List S74} {p : Int} {u : S74}, asc p l = true → l.getLast? = some u → ∀ v ∈ l, v.f0 ≤ u.f0
  | [w], p, u, _, hu, v, hv => by
    simp at hu hv
    subst hu; subst hv
    exact Int.le_refl _
  | x :: y :: l, p, u, h, hu, v, hv => by
    have h2 : asc x.f0 (y :: l) = true := by simp only [asc, Bool.and_eq_true] at h ⊢; exact h.2
    rw [List.getLast?_cons_cons] at hu
    have ih := asc_last h2 hu
    rcases List.mem_cons.1 hv with rfl | hv
    · have h3 := asc_mono h2 y List.mem_cons_self
      have h4 := ih y List.mem_cons_self
      omega
    · exact ih v hv
theorem bh_snoc {l : List S74} {st a : Int} {s d : List Int} (h : asc (-1) (l ++ [⟨st, ⟨s, d⟩⟩]) = true) :
    (a ≥ st → bh (l ++ [⟨st, ⟨s, d⟩⟩]) a = l.length + 1) ∧ (a < st → bh (l ++ [⟨st, ⟨s, d⟩⟩]) a = bh l a) := by
  constructor
  · intro ha
    rw [bh_all, List.length_append, List.length_singleton]
    intro v hv
    have := asc_last h (u := ⟨st, ⟨s, d⟩⟩) (by simp) v hv
    simp only at this
    omega
  · intro ha
    rw [bh_app]
    have : bh [(⟨st, ⟨s, d⟩⟩ : S74)] a = 0 := by rw [bh_cons, if_neg (by simp only; omega)]
    rw [this]
    split <;> omega
end Go.Proofs.Ytmolbbebglfhmaa.Plain
