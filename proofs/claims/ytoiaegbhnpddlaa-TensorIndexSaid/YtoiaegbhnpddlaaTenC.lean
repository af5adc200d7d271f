/- Plain facts on what layer 3 answers: what is stretched, or folded, to its own shape, and in two steps; no conditions. -/
import Derived.Test.YtoiaegbhnpddlaaTenB
import Derived.Test.YtoiaegbhnpddlaaTenN
namespace Go.Proofs.Ytoiaegbhnpddlaa.Plain
open Go.RowKit Go.Proofs.Ytoiaegbhnpddlaa.A Go.Proofs.YtoiaegbhnpddlaaW.PrintWords Go.Proofs.YtoiaegbhnpddlaaW.PrintLast Go.Proofs.YtoiaegbhnpddlaaW.PrintMore
set_option linter.unusedVariables false
set_option linter.unusedSimpArgs false

theorem addF_in64 (at_ x : Nat → Int) : ∀ (m p : Nat) (st : List Int), in64 st → in64 (addF at_ x m p st).1
  | 0, _, _, h => h
  | m + 1, p, st, h => by
    simp only [addF]
    split
    · rename_i hc
      exact addF_in64 at_ x m (p + 1) _ (in64_set h _ hc)
    · exact h
theorem in64_zeros (n : Nat) : in64 (List.replicate n 0) := fun x hx => by rw [(List.mem_replicate.mp hx).2]; omega
theorem foldD_in64 (s d t : List Int) : in64 (foldD s d t).1 := addF_in64 _ _ _ _ _ (in64_zeros _)
theorem foldT_in64 (s d t : List Int) : in64 (foldT s d t).2.1 := by
  have h0 : in64 [] := fun x hx => by simp at hx
  unfold foldT
  split
  · split
    · split
      · exact foldD_in64 s d t
      · exact h0
    · exact h0
  · exact h0
theorem addF_congr {a b x y : Nat → Int} : ∀ (m p : Nat) (st : List Int), (∀ i, p ≤ i → i < p + m → a i = b i ∧ x i = y i) → addF a x m p st = addF b y m p st
  | 0, _, _, _ => rfl
  | m + 1, p, st, h => by
    obtain ⟨e1, e2⟩ := h p (Nat.le_refl _) (by omega)
    simp only [addF, e1, e2]
    rw [addF_congr m (p + 1) _ (fun i h1 h2 => h i (by omega) (by omega))]
theorem addF_id {d : List Int} (hd : in64 d) : ∀ (m p : Nat), p + m = d.length → addF (fun i => (i : Int)) (fun i => rd d (i : Int)) m p (d.take p ++ List.replicate m 0) = (d, 0)
  | 0, p, h => by simp [addF, List.take_of_length_le (show d.length ≤ p by omega)]
  | m + 1, p, h => by
    have hp : p < d.length := by omega
    have b := in64_rd hd (p : Int)
    have z : rd (d.take p ++ List.replicate (m + 1) 0) (p : Int) = 0 := by
      unfold rd
      rw [Int.toNat_natCast, List.getD_eq_getElem?_getD, List.getElem?_append_right (by simp; omega)]
      simp [show min p d.length = p by omega]
    have e : (d.take p ++ List.replicate (m + 1) 0).set p (rd d (p : Int)) = d.take (p + 1) ++ List.replicate m 0 := by
      rw [List.set_append_right _ _ (by simp; omega), List.replicate_succ, show p - (d.take p).length = 0 by simp; omega, List.set_cons_zero, rd_lt hp, List.take_succ_eq_append_getElem hp, List.append_assoc]
      rfl
    simp only [addF]
    rw [z, Int.zero_add, if_pos b, Int.toNat_natCast, e]
    exact addF_id hd m (p + 1) (by omega)
theorem map_rd {d : List Int} {N : Nat} (h : d.length = N) {f : Nat → Int} (hf : ∀ i, i < N → f i = (i : Int)) : (List.range' 0 N).map (fun i => rd d (f i)) = d := by
  subst h
  apply List.ext_getElem
  · simp
  · intro i h1 h2
    simp only [List.getElem_map, List.getElem_range', Nat.zero_add, Nat.one_mul]
    rw [hf i h2, rd_lt h2]
theorem spread_self {s d : List Int} (h : tchk s d = true) : spreadT s d s = (s, d, 0) := by
  obtain ⟨hc, hl⟩ := tchk_iff.mp h
  unfold spreadT
  rw [if_pos h, if_pos (by rw [fits_self]; exact hc), map_rd (d := d) (N := (siz s).toNat) (by omega) (fun i hi => fr_self hc (by omega) (by omega))]
theorem fold_self {s d : List Int} (h : tchk s d = true) (hd : in64 d) : foldT s d s = (s, d, 0) := by
  obtain ⟨hc, hl⟩ := tchk_iff.mp h
  have e : foldD s d s = (d, 0) := by
    unfold foldD
    rw [addF_congr (b := fun i => (i : Int)) (y := fun i => rd d (i : Int)) _ _ _ (fun i _ hi => ⟨fr_self hc (by omega) (by omega), rfl⟩)]
    have := addF_id hd d.length 0 (by omega)
    rw [show (siz s).toNat = d.length by omega]
    simpa using this
  unfold foldT
  rw [if_pos h, if_pos (by rw [fits_self]; exact hc), e]
  rfl
theorem spread_ok {s d g : List Int} : (spreadT s d g).2.2 = 0 ↔ tchk s d = true ∧ fits s g = true := by
  unfold spreadT
  split
  · split <;> simp_all
  · simp_all
theorem spread_val {s d g : List Int} (h : tchk s d = true) (hf : fits s g = true) : spreadT s d g = (g, (List.range' 0 (siz g).toNat).map (fun i : Nat => rd d (fr s g (i : Int))), 0) := by
  unfold spreadT
  rw [if_pos h, if_pos hf]
theorem spread_tchk {s d g : List Int} (h : tchk s d = true) (hf : fits s g = true) : tchk (spreadT s d g).1 (spreadT s d g).2.1 = true := by
  rw [spread_val h hf]
  have := siz_nonneg g
  exact tchk_iff.mpr ⟨(fits_sd.mp hf).2.1, by simp; omega⟩
theorem rd_map {f : Nat → Int} {N : Nat} {p : Int} (h0 : 0 ≤ p) (h1 : p < N) : rd ((List.range' 0 N).map f) p = f p.toNat := by
  obtain ⟨i, rfl⟩ := Int.eq_ofNat_of_zero_le h0
  rw [rd_lt (by simp; omega)]
  simp
theorem spread_two {s d g u : List Int} (h : tchk s d = true) (hf : fits s g = true) (hk : fits g u = true) : spreadT (spreadT s d g).1 (spreadT s d g).2.1 u = spreadT s d u := by
  have ht := spread_tchk h hf
  rw [spread_val ht (by rw [spread_val h hf]; exact hk), spread_val h (fits_trans hf hk), spread_val h hf]
  simp only
  congr 2
  apply List.map_congr_left
  intro i hi
  have hi' := (List.mem_range'_1.mp hi).2
  obtain ⟨f0, f1⟩ := fr_lt hk (p := (i : Int)) (by omega) (by omega)
  rw [rd_map f0 (by omega), Int.toNat_of_nonneg f0, fr_fr hf hk (by omega) (by omega)]
theorem siz_dvd {s g : List Int} (h : fits s g = true) : siz s ≤ siz g ∧ siz g % siz s = 0 := by
  have hs := siz_pos (fits_sd.mp h).1
  have hg := siz_pos (fits_sd.mp h).2.1
  have e := fr_count h (v := 0) (by omega) (by omega)
  obtain ⟨c, hc⟩ : ∃ c, c = cnt (fun p => decide (fr s g (p : Int) = 0)) (siz g).toNat := ⟨_, rfl⟩
  rw [← hc] at e
  have hc1 : 1 ≤ c := by
    rcases Nat.eq_zero_or_pos c with h0 | h0
    · subst h0; omega
    · exact h0
  have h1 := Int.mul_le_mul_of_nonneg_right (show (1 : Int) ≤ c by omega) (show 0 ≤ siz s by omega)
  refine ⟨by omega, ?_⟩
  rw [← e]
  exact Int.mul_emod_left _ _
/-- All numbers are small: then a fold has each sum. -/
theorem fold_small {s d t : List Int} (hc : tchk s d = true) (hf : fits t s = true) {M : Int} (hM : 0 ≤ M) (hM1 : M ≤ 72057594037927936) (hd : ∀ x ∈ d, -M ≤ x ∧ x ≤ M) :
    (foldD s d t).2 = 0 ∧ ∀ v : Nat, (v : Int) < siz t → rd (foldD s d t).1 (v : Int) = sm (v : Int) (fun i : Nat => fr t s (i : Int)) (fun i => rd d (i : Int)) (siz s).toNat 0 := by
  obtain ⟨hs, hl⟩ := tchk_iff.mp hc
  have := siz_le s
  have := siz_nonneg s
  have := siz_nonneg t
  have hN : ((siz s).toNat : Int) * M ≤ 64 * M := Int.mul_le_mul_of_nonneg_right (by omega) hM
  obtain ⟨r1, r2⟩ := addF_sum (fun i : Nat => fr t s (i : Int)) (fun i => rd d (i : Int)) M hM (siz s).toNat 0 (List.replicate (siz t).toNat 0) 0
    (fun i _ hi => by have := fr_lt hf (p := (i : Int)) (by omega) (by omega); simp; omega)
    (fun i _ hi => by rw [rd_lt (by omega)]; exact hd _ (List.getElem_mem _))
    (fun v hv => by rw [rd_lt hv]; simp) (by omega)
  refine ⟨r1, fun v hv => ?_⟩
  have := r2 v (by simp; omega)
  unfold foldD
  rw [this, rd_lt (by simp; omega)]
  simp
theorem fold_rng {s d t : List Int} (hc : tchk s d = true) (hf : fits t s = true) {M : Int} (hM : 0 ≤ M) (hM1 : M ≤ 72057594037927936) (hd : ∀ x ∈ d, -M ≤ x ∧ x ≤ M) : ∀ x ∈ (foldD s d t).1, -(64 * M) ≤ x ∧ x ≤ 64 * M := by
  obtain ⟨hs, hl⟩ := tchk_iff.mp hc
  have := siz_le s
  have := siz_nonneg s
  have := siz_nonneg t
  have hN : ((siz s).toNat : Int) * M ≤ 64 * M := Int.mul_le_mul_of_nonneg_right (by omega) hM
  intro x hx
  obtain ⟨v, hv, rfl⟩ := List.getElem_of_mem hx
  rw [foldD_len] at hv
  rw [← rd_lt (by rw [foldD_len]; exact hv), (fold_small hc hf hM hM1 hd).2 v (by omega)]
  have := sm_le (v := (v : Int)) (a := fun i : Nat => fr t s (i : Int)) (x := fun i => rd d (i : Int)) hM (m := (siz s).toNat) (p := 0) (fun i _ hi => by rw [rd_lt (by omega)]; exact hd _ (List.getElem_mem _))
  omega
theorem fold_tchk {s d t : List Int} (hf : fits t s = true) : tchk t (foldD s d t).1 = true := by
  have := siz_nonneg t
  exact tchk_iff.mpr ⟨(fits_sd.mp hf).1, by rw [foldD_len]; omega⟩
theorem fold_ok {s d t : List Int} (h : (foldT s d t).2.2 = 0) : tchk s d = true ∧ fits t s = true ∧ (foldD s d t).2 = 0 := by
  unfold foldT at h
  split at h
  · split at h
    · split at h
      · exact ⟨‹_›, ‹_›, ‹_›⟩
      · exact absurd h ‹_›
    · simp at h
  · simp at h
theorem fold_val {s d t : List Int} (h : tchk s d = true) (hf : fits t s = true) (he : (foldD s d t).2 = 0) : foldT s d t = (t, (foldD s d t).1, 0) := by
  unfold foldT
  rw [if_pos h, if_pos hf, if_pos he]
theorem fold_two {s d g u : List Int} (hc : tchk s d = true) (hf : fits g s = true) (hk : fits u g = true) {M : Int} (hM : 0 ≤ M) (hM1 : 64 * M ≤ 72057594037927936) (hd : ∀ x ∈ d, -M ≤ x ∧ x ≤ M) :
    (foldD s d u).2 = 0 ∧ (foldD g (foldD s d g).1 u).1 = (foldD s d u).1 := by
  have h1 := fold_small hc hf hM (by omega) hd
  have h2 := fold_small (fold_tchk (d := d) hf) hk (M := 64 * M) (by omega) hM1 (fold_rng hc hf hM (by omega) hd)
  have h3 := fold_small hc (fits_trans hk hf) hM (by omega) hd
  refine ⟨h3.1, ext_rd (by rw [foldD_len, foldD_len]) (fun v hv => ?_)⟩
  rw [foldD_len] at hv
  rw [h2.2 v (by omega), h3.2 v (by omega)]
  have hsg := siz_nonneg g
  rw [sm_congr (b := fun i : Nat => fr u g (i : Int)) (y := fun u_ : Nat => sm (u_ : Int) (fun i : Nat => fr g s (i : Int)) (fun i => rd d (i : Int)) (siz s).toNat 0) (fun i _ hi => ⟨rfl, h1.2 i (by omega)⟩)]
  rw [sm_two (fun i _ hi => by have := fr_lt hf (p := (i : Int)) (by omega) (by omega); omega)]
  refine sm_congr (fun i _ hi => ⟨?_, rfl⟩)
  obtain ⟨f0, f1⟩ := fr_lt hf (p := (i : Int)) (by omega) (by omega)
  rw [Int.toNat_of_nonneg f0, fr_fr hk hf (by omega) (by omega)]
/-- An index of a greater shape stands where its own part stands in the lesser one. -/
theorem part_of {s g x : List Int} (h : fits s g = true) (hx : oki g x = true) :
    oki s (List.zipWith (fun c x => if c = 1 then 0 else x) s (x.drop (x.length - s.length))) = true ∧ plc s (List.zipWith (fun c x => if c = 1 then 0 else x) s (x.drop (x.length - s.length))) = fr s g (plc g x) := by
  obtain ⟨hs, hg, hl, -⟩ := fits_sd.mp h
  have hxl := oki_length hx
  have ho : (List.zipWith (fun c x => if c = 1 then 0 else x) s (x.drop (x.length - s.length))).reverse = own s.reverse x.reverse := by
    rw [List.reverse_zipWith (by simp; omega), ← own_zip]
    have := own_take s.reverse x.reverse
    rw [List.length_reverse, List.take_reverse] at this
    exact this
  have hok := okr_own (fitr_fits h) hx
  have hi := (idxr_plr (rev_pos hg) hx).1
  refine ⟨by unfold oki; rw [ho]; exact hok, ?_⟩
  unfold plc fr frr
  rw [ho, hi]
end Go.Proofs.Ytoiaegbhnpddlaa.Plain
