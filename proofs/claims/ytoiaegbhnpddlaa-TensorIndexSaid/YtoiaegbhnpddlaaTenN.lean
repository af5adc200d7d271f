/- Plain facts on stretched and folded tensors: how often a number comes to a greater shape, and what is added; no conditions. -/
import Derived.Test.YtoiaegbhnpddlaaTenM
namespace Go.Proofs.Ytoiaegbhnpddlaa.Plain
open Go.RowKit Go.Proofs.Ytoiaegbhnpddlaa.A Go.Proofs.YtoiaegbhnpddlaaW.PrintWords Go.Proofs.YtoiaegbhnpddlaaW.PrintLast Go.Proofs.YtoiaegbhnpddlaaW.PrintMore
set_option linter.unusedVariables false
set_option linter.unusedSimpArgs false

/-! ### how many -/
def cnt (f : Nat → Bool) : Nat → Nat
  | 0 => 0
  | n + 1 => cnt f n + if f n = true then 1 else 0
theorem cnt_congr {f g : Nat → Bool} : ∀ {n : Nat}, (∀ i, i < n → f i = g i) → cnt f n = cnt g n
  | 0, _ => rfl
  | n + 1, h => by simp only [cnt]; rw [cnt_congr (fun i hi => h i (by omega)), h n (by omega)]
theorem cnt_all {f : Nat → Bool} : ∀ {n : Nat}, (∀ i, i < n → f i = true) → cnt f n = n
  | 0, _ => rfl
  | n + 1, h => by simp only [cnt]; rw [cnt_all (fun i hi => h i (by omega)), h n (by omega)]; rfl
theorem cnt_none {f : Nat → Bool} : ∀ {n : Nat}, (∀ i, i < n → f i = false) → cnt f n = 0
  | 0, _ => rfl
  | n + 1, h => by simp only [cnt]; rw [cnt_none (fun i hi => h i (by omega)), h n (by omega)]; rfl
theorem cnt_one {n v : Nat} (h : v < n) : cnt (fun x => decide (x = v)) n = 1 := by
  induction n with
  | zero => omega
  | succ n ih =>
    simp only [cnt]
    by_cases hv : v = n
    · subst hv
      rw [cnt_none (fun i hi => by simp; omega)]
      simp
    · rw [ih (by omega), if_neg (by simp; omega)]
theorem cnt_add (f : Nat → Bool) (a : Nat) : ∀ b, cnt f (a + b) = cnt f a + cnt (fun x => f (a + x)) b
  | 0 => rfl
  | b + 1 => by rw [← Nat.add_assoc]; simp only [cnt]; rw [cnt_add f a b]; omega
theorem cnt_mul {f g u : Nat → Bool} {e : Nat} : ∀ {a : Nat}, (∀ h x, h < a → x < e → f (h * e + x) = (g h && u x)) → cnt f (a * e) = cnt g a * cnt u e
  | 0, _ => by simp [cnt]
  | a + 1, h => by
    rw [Nat.succ_mul, cnt_add, cnt_mul (g := g) (u := u) (fun i x hi hx => h i x (by omega) hx), cnt_congr (fun x hx => h a x (by omega) hx)]
    simp only [cnt]
    cases g a with
    | true => simp [Nat.succ_mul, Nat.add_mul]
    | false =>
      rw [cnt_none (f := fun x => false && u x) (fun _ _ => rfl)]
      simp
theorem idxr_step {e : Int} {q : List Int} (he : 1 ≤ e) {h x : Int} (h0 : 0 ≤ x) (h1 : x < e) : idxr (e :: q) (h * e + x) = x :: idxr q h := by
  have hd : (h * e + x) / e = h := by rw [Int.add_comm, Int.add_mul_ediv_right _ _ (by omega), Int.ediv_eq_zero_of_lt h0 h1]; omega
  have hm : (h * e + x) % e = x := by rw [Int.add_comm, Int.add_mul_emod_self_right, Int.emod_eq_of_lt h0 h1]
  simp [idxr, hd, hm]
theorem okr_frr {r q : List Int} (hr : ∀ c ∈ r, 1 ≤ c) (hq : ∀ c ∈ q, 1 ≤ c) (h : fitr r q = true) {p : Int} (h0 : 0 ≤ p) (h1 : p < prod q) : 0 ≤ frr r (idxr q p) ∧ frr r (idxr q p) < prod r :=
  (idxr_plr hr (okr_own h (plr_idxr hq h0 h1).2)).2
theorem cnt_fr : ∀ {r q : List Int}, (∀ c ∈ r, 1 ≤ c) → (∀ c ∈ q, 1 ≤ c) → fitr r q = true → ∀ {v : Int}, 0 ≤ v → v < prod r →
    (cnt (fun p => decide (frr r (idxr q (p : Int)) = v)) (prod q).toNat : Int) * prod r = prod q
  | [], q, _, hq, _, v, h0, h1 => by
    have hv : v = 0 := by simp [prod] at h1; omega
    subst hv
    have := prod_pos hq
    rw [cnt_all (fun i _ => by simp [frr, own_nil, plr])]
    simp [prod]
    omega
  | c :: r, [], _, _, h, _, _, _ => by cases h
  | c :: r, e :: q, hr, hq, h, v, h0, h1 => by
    have hc := hr c (by simp)
    have he := hq e (by simp)
    have hr' : ∀ c ∈ r, 1 ≤ c := fun x hx => hr x (by simp [hx])
    have hq' : ∀ c ∈ q, 1 ≤ c := fun x hx => hq x (by simp [hx])
    have pr := prod_pos hr'
    have pq := prod_pos hq'
    simp [fitr] at h
    obtain ⟨hce, hf⟩ := h
    simp only [prod] at h1 ⊢
    obtain ⟨E, rfl⟩ : ∃ E : Nat, e = E := ⟨e.toNat, by omega⟩
    obtain ⟨Q, hQ⟩ : ∃ Q : Nat, prod q = Q := ⟨(prod q).toNat, by omega⟩
    have hN : ((E : Int) * prod q).toNat = Q * E := by rw [hQ, ← Int.natCast_mul, Int.toNat_natCast, Nat.mul_comm]
    have ih := @cnt_fr r q hr' hq' hf
    rw [hQ, Int.toNat_natCast] at ih
    by_cases h1c : c = 1
    · subst h1c
      have e1 := cnt_mul (f := fun p => decide (frr (1 :: r) (idxr ((E : Int) :: q) (p : Int)) = v)) (g := fun p => decide (frr r (idxr q (p : Int)) = v)) (u := fun _ => true) (e := E) (a := Q) (fun h x hh hx => by
        show decide (frr (1 :: r) (idxr ((E : Int) :: q) ((h * E + x : Nat) : Int)) = v) = _
        rw [show ((h * E + x : Nat) : Int) = (h : Int) * E + x by push_cast; rfl, idxr_step he (by omega) (by omega)]
        simp [frr, own, plr]
        rfl)
      rw [hN, e1, cnt_all (f := fun _ => true) (fun _ _ => rfl)]
      have := ih h0 (by omega)
      rw [hQ, ← this]
      push_cast
      simp only [Int.one_mul, Int.mul_assoc, Int.mul_comm, Int.mul_left_comm]
    · have hce' : c = E := hce.resolve_right h1c
      subst hce'
      have m0 := Int.emod_nonneg v (show (E : Int) ≠ 0 by omega)
      have m1 := Int.emod_lt_of_pos v (show 0 < (E : Int) by omega)
      have d0 : 0 ≤ v / (E : Int) := Int.ediv_nonneg h0 (by omega)
      have d1 : v / (E : Int) < prod r := Int.ediv_lt_of_lt_mul (by omega) (by rw [Int.mul_comm]; exact h1)
      have e1 := cnt_mul (f := fun p => decide (frr ((E : Int) :: r) (idxr ((E : Int) :: q) (p : Int)) = v)) (g := fun p => decide (frr r (idxr q (p : Int)) = v / (E : Int))) (u := fun x => decide (x = (v % (E : Int)).toNat)) (e := E) (a := Q) (fun h x hh hx => by
        show decide (frr ((E : Int) :: r) (idxr ((E : Int) :: q) ((h * E + x : Nat) : Int)) = v) = _
        rw [show ((h * E + x : Nat) : Int) = (h : Int) * E + x by push_cast; rfl, idxr_step he (by omega) (by omega)]
        obtain ⟨y, hy⟩ : ∃ y, y = frr r (idxr q (h : Int)) := ⟨_, rfl⟩
        have hfr : frr ((E : Int) :: r) ((x : Int) :: idxr q (h : Int)) = y * E + x := by rw [hy]; simp [frr, own, plr, h1c]
        rw [hfr, ← hy]
        clear hfr hy
        have hd : (y * E + x) / (E : Int) = y := by rw [Int.add_comm, Int.add_mul_ediv_right _ _ (by omega), Int.ediv_eq_zero_of_lt (by omega) (by omega)]; omega
        have hm : (y * E + x) % (E : Int) = x := by rw [Int.add_comm, Int.add_mul_emod_self_right, Int.emod_eq_of_lt (by omega) (by omega)]
        rw [Bool.eq_iff_iff]
        simp only [decide_eq_true_eq, Bool.and_eq_true]
        constructor
        · intro hv
          rw [← hv, hd, hm]
          exact ⟨rfl, by omega⟩
        · rintro ⟨ha, hb⟩
          have := Int.mul_ediv_add_emod v (E : Int)
          rw [← ha] at this
          have hb' : (x : Int) = v % (E : Int) := by omega
          rw [hb', Int.mul_comm]
          exact this)
      rw [hN, e1, cnt_one (by omega)]
      have := ih d0 d1
      rw [hQ, ← this]
      push_cast
      simp only [Int.one_mul, Int.mul_one, Int.mul_assoc, Int.mul_comm, Int.mul_left_comm]
/-- Each number of a shape comes to as many places of a greater one. -/
theorem fr_count {s g : List Int} (h : fits s g = true) {v : Int} (h0 : 0 ≤ v) (h1 : v < siz s) : (cnt (fun p => decide (fr s g (p : Int) = v)) (siz g).toNat : Int) * siz s = siz g := by
  obtain ⟨hs, hg, -, -⟩ := fits_sd.mp h
  rw [siz_chk hs] at h1 ⊢
  rw [siz_chk hg]
  exact cnt_fr (rev_pos hs) (rev_pos hg) (fitr_fits h) h0 h1

/-! ### what is added -/
/-- Of m numbers from p on, those that come to v, added. -/
def sm (v : Int) (at_ x : Nat → Int) : Nat → Nat → Int
  | 0, _ => 0
  | m + 1, p => (if at_ p = v then x p else 0) + sm v at_ x m (p + 1)
theorem sm_congr {v : Int} {a b x y : Nat → Int} : ∀ {m p : Nat}, (∀ i, p ≤ i → i < p + m → a i = b i ∧ x i = y i) → sm v a x m p = sm v b y m p
  | 0, _, _ => rfl
  | m + 1, p, h => by
    obtain ⟨e1, e2⟩ := h p (Nat.le_refl _) (by omega)
    simp only [sm, e1, e2]
    rw [sm_congr (fun i h1 h2 => h i (by omega) (by omega))]
theorem sm_zero {v : Int} {a : Nat → Int} : ∀ {m p : Nat}, sm v a (fun _ => 0) m p = 0
  | 0, _ => rfl
  | m + 1, p => by simp [sm, sm_zero]
theorem sm_add {v : Int} {a x y : Nat → Int} : ∀ {m p : Nat}, sm v a (fun i => x i + y i) m p = sm v a x m p + sm v a y m p
  | 0, _ => rfl
  | m + 1, p => by simp only [sm, sm_add]; split <;> omega
theorem sm_ind {v : Int} {a : Nat → Int} {u : Int} {d : Int} : ∀ {m p : Nat}, (p : Int) ≤ u → u < (p : Int) + m → sm v a (fun i => if u = (i : Int) then d else 0) m p = if a u.toNat = v then d else 0
  | 0, p, h1, h2 => by omega
  | m + 1, p, h1, h2 => by
    simp only [sm]
    by_cases hu : u = (p : Int)
    · subst hu
      rw [sm_congr (y := fun _ => 0) (b := a) (fun i hi _ => ⟨rfl, if_neg (by omega)⟩), sm_zero]
      simp
    · rw [sm_ind (m := m) (p := p + 1) (by omega) (by omega), if_neg hu]
      simp
/-- Folded in two steps is folded at once. -/
theorem sm_two {v : Int} {a1 a2 x : Nat → Int} {M : Nat} : ∀ {m p : Nat}, (∀ i, p ≤ i → i < p + m → 0 ≤ a1 i ∧ a1 i < M) → sm v a2 (fun u => sm (u : Int) a1 x m p) M 0 = sm v (fun i => a2 (a1 i).toNat) x m p
  | 0, p, _ => by simp only [sm]; exact sm_zero
  | m + 1, p, h => by
    obtain ⟨h0, h1⟩ := h p (Nat.le_refl _) (by omega)
    simp only [sm]
    rw [sm_add, sm_two (fun i h1 h2 => h i (by omega) (by omega)), sm_ind (by omega) (by omega)]
theorem cnt_head (f : Nat → Bool) : ∀ m p, cnt (fun x => f (p + x)) (m + 1) = (if f p = true then 1 else 0) + cnt (fun x => f (p + 1 + x)) m := by
  intro m p
  rw [Nat.add_comm m 1, cnt_add (fun x => f (p + x)) 1 m]
  simp only [cnt, Nat.add_zero, Nat.zero_add, Nat.add_assoc]
theorem sm_const {v : Int} {a : Nat → Int} {n : Int} : ∀ {m p : Nat}, sm v a (fun _ => n) m p = n * (cnt (fun x => decide (a (p + x) = v)) m : Int)
  | 0, p => by simp [sm, cnt]
  | m + 1, p => by
    simp only [sm]
    rw [sm_const, cnt_head (fun x => decide (a x = v)) m p]
    by_cases h : a p = v
    · simp only [h, if_true, decide_true]
      push_cast
      rw [Int.mul_add]
      omega
    · simp [h]
theorem sm_le {v : Int} {a x : Nat → Int} {M : Int} (hM : 0 ≤ M) : ∀ {m p : Nat}, (∀ i, p ≤ i → i < p + m → -M ≤ x i ∧ x i ≤ M) → -((m : Int) * M) ≤ sm v a x m p ∧ sm v a x m p ≤ (m : Int) * M
  | 0, _, _ => by simp [sm]
  | m + 1, p, h => by
    have h1 := h p (Nat.le_refl _) (by omega)
    have h2 := sm_le (v := v) (a := a) hM (m := m) (p := p + 1) (fun i a b => h i (by omega) (by omega))
    have e : ((m + 1 : Nat) : Int) * M = (m : Int) * M + M := by push_cast; rw [Int.add_mul]; omega
    rw [e]
    simp only [sm]
    split <;> omega
theorem rd_set {st : List Int} {i : Int} {v : Nat} {y : Int} (h0 : 0 ≤ i) (h1 : i < st.length) (hv : v < st.length) : rd (st.set i.toNat y) (v : Int) = if i = (v : Int) then y else rd st (v : Int) := by
  unfold rd
  simp only [Int.toNat_natCast, List.getD_eq_getElem?_getD, List.getElem?_set]
  by_cases h : i = (v : Int)
  · subst h
    simp [hv]
  · rw [if_neg (by omega), if_neg h]
/-- No sum is too great: then each is all that comes there. -/
theorem addF_sum (at_ x : Nat → Int) (M : Int) (hM : 0 ≤ M) : ∀ (m p : Nat) (st : List Int) (b : Int), (∀ i, p ≤ i → i < p + m → 0 ≤ at_ i ∧ at_ i < st.length) → (∀ i, p ≤ i → i < p + m → -M ≤ x i ∧ x i ≤ M) →
    (∀ v : Nat, v < st.length → -b ≤ rd st (v : Int) ∧ rd st (v : Int) ≤ b) → b + (m : Int) * M ≤ 4611686018427387904 →
    (addF at_ x m p st).2 = 0 ∧ ∀ v : Nat, v < st.length → rd (addF at_ x m p st).1 (v : Int) = rd st (v : Int) + sm (v : Int) at_ x m p
  | 0, p, st, b, _, _, _, _ => ⟨rfl, fun v _ => by simp [addF, sm]⟩
  | m + 1, p, st, b, ha, hx, hs, hb => by
    have e : ((m + 1 : Nat) : Int) * M = (m : Int) * M + M := by push_cast; rw [Int.add_mul]; omega
    have hmM : 0 ≤ (m : Int) * M := Int.mul_nonneg (by omega) hM
    obtain ⟨a0, a1⟩ := ha p (Nat.le_refl _) (by omega)
    obtain ⟨x0, x1⟩ := hx p (Nat.le_refl _) (by omega)
    have hsp := hs (at_ p).toNat (by omega)
    rw [Int.toNat_of_nonneg a0] at hsp
    rw [e] at hb
    have hlen : (st.set (at_ p).toNat (rd st (at_ p) + x p)).length = st.length := by simp
    obtain ⟨r1, r2⟩ := addF_sum at_ x M hM m (p + 1) (st.set (at_ p).toNat (rd st (at_ p) + x p)) (b + M) (fun i h1 h2 => by rw [hlen]; exact ha i (by omega) (by omega)) (fun i h1 h2 => hx i (by omega) (by omega))
      (fun v hv => by
        rw [hlen] at hv
        rw [rd_set a0 a1 hv]
        have := hs v hv
        split <;> omega) (by omega)
    simp only [addF]
    rw [if_pos (by omega)]
    refine ⟨r1, fun v hv => ?_⟩
    rw [r2 v (by rw [hlen]; exact hv), rd_set a0 a1 hv]
    simp only [sm]
    split
    · rename_i h
      rw [h]
      omega
    · omega
theorem ext_rd {a b : List Int} (h : a.length = b.length) (hs : ∀ v : Nat, v < a.length → rd a (v : Int) = rd b (v : Int)) : a = b := by
  apply List.ext_getElem h
  intro i h1 h2
  have := hs i h1
  simpa [rd, List.getD_eq_getElem?_getD, h1, h2] using this
end Go.Proofs.Ytoiaegbhnpddlaa.Plain
