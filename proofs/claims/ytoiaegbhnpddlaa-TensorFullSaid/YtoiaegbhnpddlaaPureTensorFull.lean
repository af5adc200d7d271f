/- For all shapes and numbers TensorFull answers true; no conditions but the sizes that the statement names. -/
import Derived.Test.YtoiaegbhnpddlaaAx16
import Derived.Test.YtoiaegbhnpddlaaTenAwake
import Derived.Test.YtoiaegbhnpddlaaTenC
namespace Go.Proofs.Ytoiaegbhnpddlaa.Pure
open Go.RowKit Go.Proofs.Ytoiaegbhnpddlaa.A Go.Proofs.YtoiaegbhnpddlaaW.PrintWords Go.Proofs.YtoiaegbhnpddlaaW.PrintLast Go.Proofs.YtoiaegbhnpddlaaW.PrintMore Go.Proofs.Ytoiaegbhnpddlaa.Plain
set_option linter.unusedVariables false
set_option linter.unusedSimpArgs false
theorem wf64 {l : List Int} (h : ∀ x ∈ l, (Lit.int .i64 x).wf = true) : in64 l := fun x hx => by
  have := h x hx
  simp [Lit.wf, IntKind.min, IntKind.max, IntKind.signed, IntKind.bits] at this
  omega
theorem TensorFull : fullerlaw03_TensorFull.Pure := by
  intro s u n hm hs hs2 hmu hu hu2 hn
  refine ⟨1000, ?_⟩
  unfold fullerlaw03_TensorFull.f
  rw [awake_f _ (by omega)]
  simp only [Option.bind_some]
  have out : fullerlaw03_TensorFull.j0 1000 s u n true true = some true := by
    rw [show 1000 = 999 + 1 from rfl, fullerlaw03_TensorFull.j0, if_pos rfl]
  by_cases h1 : (s.length : Int) > 100
  · rw [if_pos h1]; exact out
  rw [if_neg h1]
  by_cases h2 : (u.length : Int) > 100
  · rw [if_pos h2]; exact out
  rw [if_neg h2]
  by_cases h3 : n < -1099511627776
  · rw [if_pos h3]; exact out
  rw [if_neg h3]
  by_cases h4 : n > 1099511627776
  · rw [decide_eq_true h4]; exact out
  rw [decide_eq_false h4, show 1000 = 999 + 1 from rfl, fullerlaw03_TensorFull.j0, if_neg (by simp), tfull_f _ _ _ (by omega)]
  simp only [Option.bind_some]
  by_cases hc : chk s = true
  · rw [show fullT s n = (s, List.replicate (siz s).toNat n, 0) from if_pos hc]
    have h64 := siz_le s
    have h0 := siz_nonneg s
    have hp := siz_pos hc
    obtain ⟨d, hd⟩ : ∃ d, d = List.replicate (siz s).toNat n := ⟨_, rfl⟩
    have hdl : (d.length : Int) = siz s := by rw [hd]; simp; omega
    have hdv : ∀ x ∈ d, x = n := fun x hx => by rw [hd] at hx; exact (List.mem_replicate.mp hx).2
    have hdr : ∀ i : Nat, i < d.length → rd d (i : Int) = n := fun i hi => by rw [rd_lt hi]; exact hdv _ (List.getElem_mem hi)
    have ht : tchk s d = true := tchk_iff.mpr ⟨hc, hdl⟩
    have hd64 : in64 d := fun x hx => by rw [hdv x hx]; omega
    simp only [if_true]
    rw [← hd, tspread_f _ _ _ _ (by omega), tfull_f _ _ _ (by omega), tfold_f _ _ _ hd64 _ (by omega)]
    simp only [Option.bind_some]
    -- the rounds over the one tensor's numbers
    have r0 : ∀ (e k i : Nat) (f2 g2 h2 : Int) (a1 a2 b1 b2 c1 c2 : List Int) (r : Option Bool), d.length - i = e → i ≤ d.length → fullerlaw03_TensorFull.l1 k s u n true f2 g2 h2 0 s d a1 a2 b1 b2 c1 c2 = r → fullerlaw03_TensorFull.l0 (k + e + 1) s u n true f2 g2 h2 (i : Int) s d a1 a2 b1 b2 c1 c2 = r := by
      intro e
      induction e with
      | zero =>
        intro k i f2 g2 h2 a1 a2 b1 b2 c1 c2 r he hi hr
        rw [fullerlaw03_TensorFull.l0, if_neg (by omega)]
        exact hr
      | succ e ih =>
        intro k i f2 g2 h2 a1 a2 b1 b2 c1 c2 r he hi hr
        rw [fullerlaw03_TensorFull.l0, if_pos (by omega), if_pos (by omega), hdr i (by omega), if_pos rfl, w64 (by omega) (by omega)]
        exact ih k (i + 1) f2 g2 h2 a1 a2 b1 b2 c1 c2 r (by omega) (by omega) hr
    rw [show (999 : Nat) = (998 - d.length) + d.length + 1 by omega]
    refine r0 d.length (998 - d.length) 0 _ _ _ _ _ _ _ _ _ _ (by omega) (by omega) ?_
    -- what stands behind
    have fin : ∀ (k : Nat) (i : Int), 100 ≤ k → k ≤ 5000 → fullerlaw03_TensorFull.j3 k s u n true (spreadT s d u).2.2 (fullT u n).2.2 (foldT s d u).2.2 i false s d (spreadT s d u).1 (spreadT s d u).2.1 (fullT u n).1 (fullT u n).2.1 (foldT s d u).1 (foldT s d u).2.1 = some true := by
      intro k i hk hk2
      obtain ⟨k, rfl⟩ : ∃ m, k = m + 1 := ⟨k - 1, by omega⟩
      have e3 : ((foldT s d u).2.2 == 0) = fits u s := by
        cases hfu : fits u s with
        | true =>
          rw [fold_val ht hfu (fold_small ht hfu (M := 1099511627776) (by omega) (by omega) (fun x hx => by rw [hdv x hx]; omega)).1]
          rfl
        | false =>
          unfold foldT
          rw [if_pos ht, if_neg (by simp [hfu])]
          rfl
      have e1 : ((spreadT s d u).2.2 == 0) = fits s u := by
        cases hfu : fits s u with
        | true => rw [spread_val ht hfu]; rfl
        | false =>
          unfold spreadT
          rw [if_pos ht, if_neg (by simp [hfu])]
          rfl
      rw [fullerlaw03_TensorFull.j3, if_neg (by simp), tcheck_f _ _ _ (by omega), ht]
      simp only [Option.bind_some, if_true]
      rw [fits_f _ _ _ (by omega)]
      simp only [Option.bind_some]
      rw [e1, if_pos (by simp)]
      cases hfu : fits s u with
      | true =>
        have hu' := (fits_sd.mp hfu).2.1
        have hu64 := siz_le u
        have hu0 := siz_nonneg u
        rw [spread_val ht hfu, show fullT u n = (u, List.replicate (siz u).toNat n, 0) from if_pos hu']
        simp only [if_true]
        have e : (List.range' 0 (siz u).toNat).map (fun i : Nat => rd d (fr s u (i : Int))) = List.replicate (siz u).toNat n := by
          apply List.ext_getElem
          · simp
          · intro i h1 h2
            have hi : i < (siz u).toNat := by simpa using h1
            obtain ⟨f0, f1⟩ := fr_lt hfu (p := (i : Int)) (by omega) (by omega)
            simp only [List.getElem_map, List.getElem_range', Nat.zero_add, Nat.one_mul, List.getElem_replicate]
            have := hdr (fr s u (i : Int)).toNat (by omega)
            rwa [Int.toNat_of_nonneg f0] at this
        rw [e, tsame_f _ _ _ (by have := chk_len hu'; simp; omega) (by omega)]
        simp only [Option.bind_some, if_true]
        rw [fits_f _ _ _ (by omega)]
        simp only [Option.bind_some]
        rw [e3]
        simp
      | false =>
        have : (spreadT s d u).2.2 ≠ 0 := by
          intro h
          rw [h, hfu] at e1
          simp at e1
        rw [if_neg this, fits_f _ _ _ (by omega)]
        simp only [Option.bind_some]
        rw [e3]
        simp
    by_cases hz : (foldT s d u).2.2 = 0
    · obtain ⟨-, hfu, hfe⟩ := fold_ok hz
      have hfv := fold_val ht hfu hfe
      have hu0 := siz_nonneg u
      have hu64 := siz_le u
      have hlen : ((foldD s d u).1.length : Int) = siz u := by rw [foldD_len]; omega
      have hval : ∀ v : Nat, (v : Int) < siz u → rd (foldD s d u).1 (v : Int) * siz u = n * siz s := fun v hv => by
        rw [(fold_small ht hfu (M := 1099511627776) (by omega) (by omega) (fun x hx => by rw [hdv x hx]; omega)).2 v hv]
        rw [sm_congr (b := fun i : Nat => fr u s (i : Int)) (y := fun _ => n) (fun i _ hi => ⟨rfl, hdr i (by omega)⟩), sm_const, Int.mul_assoc]
        have := fr_count hfu (v := (v : Int)) (by omega) hv
        simp only [Nat.zero_add]
        rw [this]
      have r1 : ∀ (e k i : Nat), (foldD s d u).1.length - i = e → i ≤ (foldD s d u).1.length → 2 * e + 110 ≤ k → k ≤ 5000 → fullerlaw03_TensorFull.l1 k s u n true (spreadT s d u).2.2 (fullT u n).2.2 (foldT s d u).2.2 (i : Int) s d (spreadT s d u).1 (spreadT s d u).2.1 (fullT u n).1 (fullT u n).2.1 (foldT s d u).1 (foldT s d u).2.1 = some true := by
        intro e
        induction e with
        | zero =>
          intro k i he hi hk hk2
          obtain ⟨k, rfl⟩ : ∃ m, k = m + 1 := ⟨k - 1, by omega⟩
          rw [fullerlaw03_TensorFull.l1, if_neg (by rw [hfv]; simp only; omega)]
          exact fin k _ (by omega) (by omega)
        | succ e ih =>
          intro k i he hi hk hk2
          obtain ⟨k, rfl⟩ : ∃ m, k = m + 2 := ⟨k - 2, by omega⟩
          have hih := ih k (i + 1) (by omega) (by omega) (by omega) (by omega)
          rw [fullerlaw03_TensorFull.l1, if_pos (by rw [hfv]; simp only; omega), hz, show ((0 : Int) == 0) = true from rfl, fullerlaw03_TensorFull.j3, if_pos rfl, if_pos (by omega), if_pos (by rw [hfv]; simp only; omega)]
          rw [hz] at hih
          have e1 : wrap64 (rd (foldT s d u).2.1 (i : Int) * ((foldT s d u).2.1.length : Int)) = wrap64 (n * (d.length : Int)) := by
            rw [hfv]
            simp only
            rw [hlen, hval i (by omega), hdl]
          rw [if_pos e1, w64 (by omega) (by omega)]
          exact hih
      exact r1 (foldD s d u).1.length (998 - d.length) 0 (by omega) (by omega) (by omega) (by omega)
    · have hcl : (foldT s d u).2.1 = [] := by
        by_cases hfu : fits u s = true
        · by_cases hfe : (foldD s d u).2 = 0
          · rw [fold_val ht hfu hfe] at hz
            exact absurd rfl hz
          · unfold foldT
            rw [if_pos ht, if_pos hfu, if_neg hfe]
        · unfold foldT
          rw [if_pos ht, if_neg hfu]
      rw [show (998 - d.length : Nat) = (997 - d.length) + 1 by omega, fullerlaw03_TensorFull.l1, if_neg (by rw [hcl]; simp)]
      exact fin _ _ (by omega) (by omega)
  · rw [show fullT s n = ([], [], 20) from if_neg hc]
    simp only
    rw [if_neg (by omega), if_pos trivial, check_f _ _ (by omega)]
    simp [hc]
end Go.Proofs.Ytoiaegbhnpddlaa.Pure
