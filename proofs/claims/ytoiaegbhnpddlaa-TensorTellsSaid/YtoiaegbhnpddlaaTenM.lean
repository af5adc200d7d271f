/- Plain facts on stretched and folded tensors: where a place of a greater shape comes from, how often, and what is added; no conditions. -/
import Derived.Test.YtoiaegbhnpddlaaBase
namespace Go.Proofs.Ytoiaegbhnpddlaa.Plain
open Go.RowKit Go.Proofs.Ytoiaegbhnpddlaa.A Go.Proofs.YtoiaegbhnpddlaaW.PrintWords Go.Proofs.YtoiaegbhnpddlaaW.PrintLast Go.Proofs.YtoiaegbhnpddlaaW.PrintMore
set_option linter.unusedVariables false
set_option linter.unusedSimpArgs false

/-- Does a shape, its sides told from the last one on, fit another one? -/
def fitr : List Int → List Int → Bool
  | [], _ => true
  | c :: r, e :: q => (decide (c = e) || decide (c = 1)) && fitr r q
  | _ :: _, [] => false
/-- An index of a greater shape, as the lesser one has it. -/
def own : List Int → List Int → List Int
  | c :: r, x :: y => (if c = 1 then 0 else x) :: own r y
  | _, _ => []
def frr (r y : List Int) : Int := plr r (own r y)
/-- The place that a place of a greater shape comes from. -/
def fr (s g : List Int) (p : Int) : Int := frr s.reverse (idxr g.reverse p)
theorem own_nil (y : List Int) : own [] y = [] := by cases y <;> rfl
theorem okr_own {r q y : List Int} (h : fitr r q = true) (hy : okr q y = true) : okr r (own r y) = true := by
  induction r generalizing q y with
  | nil => rw [own_nil]; rfl
  | cons c r ih =>
    cases q with
    | nil => cases h
    | cons e q =>
      cases y with
      | nil => simp [okr] at hy
      | cons x y =>
        simp [fitr] at h
        simp [okr] at hy
        obtain ⟨⟨h0, h1⟩, h2⟩ := hy
        have := ih h.2 h2
        simp only [own, okr, this, Bool.and_true, Bool.and_eq_true, decide_eq_true_eq]
        split
        · omega
        · rcases h.1 with h3 | h3 <;> omega
theorem own_self {r y : List Int} (h : okr r y = true) : own r y = y := by
  induction r generalizing y with
  | nil => cases y with
    | nil => rfl
    | cons _ _ => simp [okr] at h
  | cons c r ih => cases y with
    | nil => simp [okr] at h
    | cons x y =>
      simp [okr] at h
      obtain ⟨⟨h0, h1⟩, h2⟩ := h
      simp only [own, ih h2]
      split
      · congr 1; omega
      · rfl
theorem own_own {r q y : List Int} (h : fitr r q = true) : own r (own q y) = own r y := by
  induction r generalizing q y with
  | nil => rw [own_nil, own_nil]
  | cons c r ih =>
    cases q with
    | nil => cases h
    | cons e q =>
      cases y with
      | nil => rfl
      | cons x y =>
        simp [fitr] at h
        simp only [own, ih h.2]
        congr 1
        split
        · rfl
        · rw [if_neg]; rcases h.1 with h3 | h3 <;> omega
theorem fitr_of : ∀ {r q : List Int}, r.length ≤ q.length → (∀ i, i < r.length → r.getD i 0 = q.getD i 0 ∨ r.getD i 0 = 1) → fitr r q = true
  | [], _, _, _ => rfl
  | c :: r, [], h, _ => absurd h (by simp)
  | c :: r, e :: q, h, hs => by
    have h0 := hs 0 (by simp)
    simp only [List.getD_cons_zero] at h0
    have := fitr_of (r := r) (q := q) (by simpa using h) (fun i hi => by simpa using hs (i + 1) (by simpa using hi))
    simp [fitr, this, h0]
theorem sd_rev {s : List Int} {i : Nat} (h : i < s.length) : s.reverse.getD i 0 = sd s i := by
  unfold sd
  rw [if_pos h, List.getD_eq_getElem?_getD, List.getD_eq_getElem?_getD, List.getElem?_reverse (by simpa using h)]
theorem fitr_fits {s g : List Int} (h : fits s g = true) : fitr s.reverse g.reverse = true := by
  obtain ⟨h1, h2, h3, h4⟩ := fits_sd.mp h
  refine fitr_of (by simpa using h3) (fun i hi => ?_)
  have hi' : i < s.length := by simpa using hi
  rw [sd_rev hi', sd_rev (by omega)]
  exact h4 i
theorem rev_pos {s : List Int} (h : chk s = true) : ∀ c ∈ s.reverse, 1 ≤ c := fun c hc => (chk_sides h c (by simpa using hc)).1
theorem siz_chk {s : List Int} (h : chk s = true) : siz s = prod s.reverse := by rw [prod_reverse]; simp [siz, h]
theorem fr_lt {s g : List Int} (h : fits s g = true) {p : Int} (h0 : 0 ≤ p) (h1 : p < siz g) : 0 ≤ fr s g p ∧ fr s g p < siz s := by
  obtain ⟨hs, hg, -, -⟩ := fits_sd.mp h
  rw [siz_chk hg] at h1
  have hk := (plr_idxr (rev_pos hg) h0 h1).2
  obtain ⟨e1, e2, e3⟩ := idxr_plr (rev_pos hs) (okr_own (fitr_fits h) hk)
  rw [siz_chk hs]
  exact ⟨e2, e3⟩
theorem fr_self {s : List Int} (h : chk s = true) {p : Int} (h0 : 0 ≤ p) (h1 : p < siz s) : fr s s p = p := by
  rw [siz_chk h] at h1
  obtain ⟨e1, e2⟩ := plr_idxr (rev_pos h) h0 h1
  unfold fr frr
  rw [own_self e2, e1]
theorem fr_fr {s g t : List Int} (h : fits s g = true) (k : fits g t = true) {p : Int} (h0 : 0 ≤ p) (h1 : p < siz t) : fr s g (fr g t p) = fr s t p := by
  obtain ⟨hs, hg, -, -⟩ := fits_sd.mp h
  obtain ⟨-, ht, -, -⟩ := fits_sd.mp k
  rw [siz_chk ht] at h1
  have hk := (plr_idxr (rev_pos ht) h0 h1).2
  obtain ⟨e1, e2, e3⟩ := idxr_plr (rev_pos hg) (okr_own (fitr_fits k) hk)
  unfold fr frr
  rw [e1, own_own (fitr_fits h)]

/-- What a fold does, number by number: what has come, or an error. -/
def addF (at_ x : Nat → Int) : Nat → Nat → List Int → List Int × Int
  | 0, _, st => (st, 0)
  | m + 1, p, st => if -9223372036854775808 ≤ rd st (at_ p) + x p ∧ rd st (at_ p) + x p ≤ 9223372036854775807 then addF at_ x m (p + 1) (st.set (at_ p).toNat (rd st (at_ p) + x p)) else (st, 10)
theorem addF_err (at_ x : Nat → Int) : ∀ (m p : Nat) (st : List Int), (addF at_ x m p st).2 = 0 ∨ (addF at_ x m p st).2 = 10
  | 0, _, _ => .inl rfl
  | m + 1, p, st => by
    simp only [addF]
    split
    · exact addF_err at_ x m (p + 1) _
    · exact .inr rfl
theorem addF_len (at_ x : Nat → Int) : ∀ (m p : Nat) (st : List Int), (addF at_ x m p st).1.length = st.length
  | 0, _, _ => rfl
  | m + 1, p, st => by
    simp only [addF]
    split
    · rw [addF_len at_ x m (p + 1)]; simp
    · rfl
end Go.Proofs.Ytoiaegbhnpddlaa.Plain
