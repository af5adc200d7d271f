/- For all tensors, shapes and indices TensorIndex answers true; no conditions but the sizes that the statement names. -/
import Derived.Test.YtoiaegbhnpddlaaAx18
import Derived.Test.YtoiaegbhnpddlaaTenAwake
import Derived.Test.YtoiaegbhnpddlaaTenC
namespace Go.Proofs.Ytoiaegbhnpddlaa.Pure
open Go.RowKit Go.Proofs.Ytoiaegbhnpddlaa.A Go.Proofs.YtoiaegbhnpddlaaW.PrintWords Go.Proofs.YtoiaegbhnpddlaaW.PrintLast Go.Proofs.YtoiaegbhnpddlaaW.PrintMore Go.Proofs.Ytoiaegbhnpddlaa.Plain
set_option linter.unusedVariables false
set_option linter.unusedSimpArgs false
theorem wf64 {l : List Int} (h : ∀ x ∈ l, (Lit.int .i64 x).wf = true) : in64 l := fun x hx => by
  have := h x hx
  simp [Lit.wf, IntKind.min, IntKind.max, IntKind.signed, IntKind.bits] at this
  omega
theorem TensorIndex : fullerlaw03_TensorIndex.Pure := by
  intro s d g x hs hd hg hx
  refine ⟨1000, ?_⟩
  unfold fullerlaw03_TensorIndex.f
  rw [awake_f _ (by omega), few_f]
  simp only [Option.bind_some]
  have out : fullerlaw03_TensorIndex.j0 1000 g x true true s d = some true := by
    rw [show 1000 = 999 + 1 from rfl, fullerlaw03_TensorIndex.j0, if_pos rfl]
  cases hf : fewT s d with
  | false => rw [if_neg (by simp)]; exact out
  | true =>
    rw [if_pos rfl]
    by_cases h1 : (g.length : Int) > 100
    · rw [if_pos h1]; exact out
    rw [if_neg h1]
    by_cases h2 : (x.length : Int) > 100
    · rw [decide_eq_true h2]; exact out
    rw [decide_eq_false h2, show 1000 = 999 + 1 from rfl, fullerlaw03_TensorIndex.j0, if_neg (by simp), tspread_f _ _ _ _ (by omega)]
    simp only [Option.bind_some]
    rw [tat_f _ _ _ _ (by omega)]
    simp only [Option.bind_some]
    by_cases ha : (spreadT s d g).2.2 = 0
    · obtain ⟨ht, hf1⟩ := spread_ok.mp ha
      have ht2 := spread_tchk ht hf1
      rw [if_pos ha]
      by_cases ho : oki g x = true
      · have hsl := chk_len (fits_sd.mp hf1).1
        have hgl := chk_len (fits_sd.mp hf1).2.1
        have hxl := oki_length ho
        obtain ⟨o1, o2⟩ := part_of hf1 ho
        obtain ⟨hc, hl⟩ := tchk_iff.mp ht
        obtain ⟨p0, p1⟩ := plc_lt (fits_sd.mp hf1).2.1 ho
        have ea : atT (spreadT s d g).1 (spreadT s d g).2.1 x = (rd d (fr s g (plc g x)), 0) := by
          unfold atT
          rw [if_pos ht2]
          rw [spread_val ht hf1]
          simp only
          rw [if_pos ho, rd_map p0 (by omega), Int.toNat_of_nonneg p0]
        have hle := (fits_sd.mp hf1).2.2.1
        rw [ea, ha]
        simp only
        rw [show ((0 : Int) != 0) = false from rfl, show 999 = 998 + 1 from rfl, fullerlaw03_TensorIndex.j1, if_neg (by simp), if_neg (by omega)]
        simp only [Option.bind_some, List.nil_append, List.length_nil]
        rw [w64 (by omega) (by omega), if_pos (by omega), if_pos (by omega)]
        have hn : ((x.length : Int) - (s.length : Int)).toNat = x.length - s.length := by omega
        rw [hn, if_pos (by simp; omega)]
        have rounds : ∀ (e k i : Nat) (y : List Int), s.length - i = e → i ≤ s.length → e + 20 ≤ k → y.length = s.length → y.drop i = (x.drop (x.length - s.length)).drop i → y.take i = List.zipWith (fun c x => if c = 1 then 0 else x) (s.take i) ((x.drop (x.length - s.length)).take i) → fullerlaw03_TensorIndex.l0 k true (rd d (fr s g (plc g x))) y (i : Int) s d = some true := by
          intro e
          induction e with
          | zero =>
            intro k i y he hi hk hy hd1 ht1
            obtain ⟨k, rfl⟩ : ∃ m, k = m + 1 := ⟨k - 1, by omega⟩
            have hye : y = List.zipWith (fun c x => if c = 1 then 0 else x) s (x.drop (x.length - s.length)) := by
              rw [List.take_of_length_le (by omega), List.take_of_length_le (by omega), List.take_of_length_le (by simp; omega)] at ht1
              exact ht1
            rw [fullerlaw03_TensorIndex.l0, if_neg (by omega), hye, tat_f _ _ _ _ (by omega)]
            simp only [Option.bind_some, atT, if_true]
            rw [if_pos ht, if_pos o1, o2]
            simp
          | succ e ih =>
            intro k i y he hi hk hy hd1 ht1
            obtain ⟨k, rfl⟩ : ∃ m, k = m + 1 := ⟨k - 1, by omega⟩
            have his : i < s.length := by omega
            have hiy : i < y.length := by omega
            have hix : i < (x.drop (x.length - s.length)).length := by simp; omega
            rw [List.drop_eq_getElem_cons hiy, List.drop_eq_getElem_cons hix] at hd1
            injection hd1 with hd2 hd3
            rw [fullerlaw03_TensorIndex.l0, if_pos (by omega), if_pos (by omega), if_pos (by omega), rd_lt his, w64 (by omega) (by omega)]
            have e1 : List.zipWith (fun c x => if c = 1 then 0 else x) (s.take (i + 1)) ((x.drop (x.length - s.length)).take (i + 1)) = List.zipWith (fun c x => if c = 1 then 0 else x) (s.take i) ((x.drop (x.length - s.length)).take i) ++ [if s[i] = 1 then 0 else (x.drop (x.length - s.length))[i]] := by
              rw [List.take_succ_eq_append_getElem his, List.take_succ_eq_append_getElem hix, List.zipWith_append (by simp; omega)]
              rfl
            by_cases c1 : s[i] = 1
            · rw [if_pos c1]
              rw [if_pos c1] at e1
              refine ih k (i + 1) _ (by omega) (by omega) (by omega) (by simpa using hy) ?_ ?_
              · rw [Int.toNat_natCast, List.drop_set_of_lt (by omega)]
                exact hd3
              · rw [e1, Int.toNat_natCast, ← ht1, List.take_succ_eq_append_getElem (by simpa using hiy), List.take_set_of_le (Nat.le_refl _)]
                simp
            · rw [if_neg c1]
              rw [if_neg c1] at e1
              refine ih k (i + 1) y (by omega) (by omega) (by omega) hy hd3 ?_
              rw [e1, ← ht1, List.take_succ_eq_append_getElem hiy, hd2]
        exact rounds s.length 998 0 _ (by omega) (by omega) (by omega) (by simp; omega) rfl (by simp)
      · have ea : atT (spreadT s d g).1 (spreadT s d g).2.1 x = (0, 20) := by
          unfold atT
          rw [if_pos ht2]
          rw [spread_val ht hf1]
          simp only
          rw [if_neg ho]
        rw [ea, ha]
        simp only
        rw [show ((20 : Int) != 0) = true from rfl, show 999 = 998 + 1 from rfl, fullerlaw03_TensorIndex.j1, if_pos rfl, if_pos rfl]
        rfl
    · rw [if_neg ha, show 999 = 998 + 1 from rfl, fullerlaw03_TensorIndex.j1, if_pos rfl, if_pos rfl, if_neg ha]
end Go.Proofs.Ytoiaegbhnpddlaa.Pure
