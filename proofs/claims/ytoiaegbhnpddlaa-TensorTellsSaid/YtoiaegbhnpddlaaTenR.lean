/- What the document's functions of layer 3 answer, in plain words; no conditions. -/
import Derived.Test.YtoiaegbhnpddlaaTenAR
import Derived.Test.YtoiaegbhnpddlaaAx8
import Derived.Test.YtoiaegbhnpddlaaAx9
import Derived.Test.YtoiaegbhnpddlaaAx11
import Derived.Test.YtoiaegbhnpddlaaAx12
namespace Go.Proofs.Ytoiaegbhnpddlaa.Plain
open Go.RowKit Go.Proofs.Ytoiaegbhnpddlaa.A Go.Proofs.YtoiaegbhnpddlaaW.PrintWords Go.Proofs.YtoiaegbhnpddlaaW.PrintLast Go.Proofs.YtoiaegbhnpddlaaW.PrintMore
set_option linter.unusedVariables false
set_option linter.unusedSimpArgs false

theorem rfull_l0 (s : List Int) (n : Int) (N : Nat) (hN : siz s = N) (d : Nat) : ∀ (k i : Nat), N - i = d → i ≤ N → d + 11 ≤ k → fullerref03_Full.l0 k s n (List.replicate i n) (i : Int) = some (s, List.replicate N n, 0) := by
  have := siz_le s
  induction d with
  | zero =>
    intro k i hd hi hk
    obtain ⟨k, rfl⟩ : ∃ m, k = m + 1 := ⟨k - 1, by omega⟩
    rw [fullerref03_Full.l0, rsize_f s k (by omega)]
    simp only [Option.bind_some]
    rw [if_neg (by omega), show i = N by omega]
  | succ d ih =>
    intro k i hd hi hk
    obtain ⟨k, rfl⟩ : ∃ m, k = m + 1 := ⟨k - 1, by omega⟩
    rw [fullerref03_Full.l0, rsize_f s k (by omega)]
    simp only [Option.bind_some]
    rw [if_pos (by omega), if_pos (by simp; omega), w64 (by omega) (by omega), ← List.replicate_succ']
    exact ih k (i + 1) (by omega) (by omega) (by omega)
theorem rfull_f (s : List Int) (n : Int) (k : Nat) (hk : 90 ≤ k) : fullerref03_Full.f k s n = some (fullT s n) := by
  unfold fullerref03_Full.f fullT
  rw [rcheck_f s k (by omega)]
  simp only [Option.bind_some]
  by_cases h : chk s = true
  · rw [if_pos h, if_pos h]
    have := siz_le s
    have := siz_nonneg s
    exact rfull_l0 s n (siz s).toNat (by omega) (siz s).toNat k 0 (by omega) (by omega) (by omega)
  · rw [if_neg h, if_neg h]
theorem rat_f (s d x : List Int) (k : Nat) (hk : 90 ≤ k) : fullerref03_At.f k s d x = some (atT s d x) := by
  unfold fullerref03_At.f atT
  rw [rtcheck_f s d k (by omega)]
  simp only [Option.bind_some]
  by_cases h : tchk s d = true
  · rw [if_pos h, if_pos h, rplace_f s x k hk]
    obtain ⟨hc, hl⟩ := tchk_iff.mp h
    simp only [Option.bind_some]
    by_cases ho : oki s x = true
    · rw [show pl s x = (plc s x, 0) from if_pos ⟨hc, ho⟩, if_pos ho]
      obtain ⟨p0, p1⟩ := plc_lt hc ho
      simp only [if_true]
      rw [if_pos p0, if_pos (by omega)]
    · rw [show pl s x = (0, 20) from if_neg (fun e => ho e.2), if_neg ho]
      simp
  · rw [if_neg h, if_neg h]
theorem rwith_f (s d x : List Int) (n : Int) (k : Nat) (hk : 90 ≤ k) : fullerref03_With.f k s d x n = some (withT s d x n) := by
  unfold fullerref03_With.f withT
  rw [rat_f s d x k hk]
  simp only [Option.bind_some]
  by_cases h : (atT s d x).2 = 0
  · rw [if_pos h, if_pos h, rplace_f s x k hk]
    obtain ⟨ht, ho⟩ := atT_ok.mp h
    obtain ⟨hc, hl⟩ := tchk_iff.mp ht
    obtain ⟨p0, p1⟩ := plc_lt hc ho
    have := siz_le s
    simp only [Option.bind_some]
    rw [show pl s x = (plc s x, 0) from if_pos ⟨hc, ho⟩, if_pos (by simp; omega)]
    simp only [List.nil_append]
    rw [if_pos p0, if_pos (by omega)]
  · rw [if_neg h, if_neg h]
theorem rfrom_l0 (s x : List Int) (hx : x.length = s.length) (hs : s.length ≤ 3) (d : Nat) : ∀ (k i : Nat), s.length - i = d → i ≤ s.length → d + 91 ≤ k →
    fullerref03_From.l0 k s x (List.zipWith (fun c x => if c = 1 then 0 else x) (s.take i) (x.take i)) (i : Int) = some (pl s (List.zipWith (fun c x => if c = 1 then 0 else x) s x)).1 := by
  induction d with
  | zero =>
    intro k i hd hi hk
    obtain ⟨k, rfl⟩ : ∃ m, k = m + 1 := ⟨k - 1, by omega⟩
    rw [fullerref03_From.l0, if_neg (by omega), List.take_of_length_le (by omega), List.take_of_length_le (by omega), rplace_f _ _ k (by omega)]
    rfl
  | succ d ih =>
    intro k i hd hi hk
    obtain ⟨k, rfl⟩ : ∃ m, k = m + 1 := ⟨k - 1, by omega⟩
    have hi' : i < s.length := by omega
    have hix : i < x.length := by omega
    have e : List.zipWith (fun c x => if c = 1 then 0 else x) (s.take (i + 1)) (x.take (i + 1)) = List.zipWith (fun c x => if c = 1 then 0 else x) (s.take i) (x.take i) ++ [if s[i] = 1 then 0 else x[i]] := by
      rw [List.take_succ_eq_append_getElem hi', List.take_succ_eq_append_getElem hix, List.zipWith_append (by simp; omega)]
      rfl
    have hl : (List.zipWith (fun c x => if c = 1 then 0 else x) (s.take i) (x.take i)).length < 17592186044416 := by simp; omega
    have := ih k (i + 1) (by omega) (by omega) (by omega)
    rw [e] at this
    rw [fullerref03_From.l0, if_pos (by omega), if_pos (by omega), rd_lt hi', w64 (by omega) (by omega)]
    by_cases h1 : s[i] = 1
    · rw [if_pos h1] at this
      rw [if_pos h1, if_pos hl]
      exact this
    · rw [if_neg h1] at this
      rw [if_neg h1, if_pos (by omega), if_pos hl, rd_lt hix]
      exact this
theorem rfrom_f {s g : List Int} (h : fits s g = true) {p : Int} (h0 : 0 ≤ p) (h1 : p < siz g) (k : Nat) (hk : 95 ≤ k) : fullerref03_From.f k s g p = some (fr s g p) := by
  obtain ⟨hs, hg, hl, -⟩ := fits_sd.mp h
  have hsl := chk_len hs
  have hgl := chk_len hg
  unfold fullerref03_From.f
  rw [rindex_f g p k (by omega)]
  simp only [Option.bind_some]
  rw [show ix g p = (idx g p, 0) from if_pos ⟨h0, h1⟩, w64 (by omega) (by omega), if_pos (by omega), if_pos (by simp only [idx_length]; omega)]
  have hd : ((g.length : Int) - (s.length : Int)).toNat = g.length - s.length := by omega
  rw [hd]
  have e := rfrom_l0 s ((idx g p).drop (g.length - s.length)) (by rw [List.length_drop, idx_length]; omega) (by omega) s.length k 0 (by omega) (by omega) (by omega)
  simp only [List.take_zero, List.zipWith_nil_left] at e
  refine e.trans ?_
  congr 1
  have hr : (idx g p).drop (g.length - s.length) = ((idxr g.reverse p).take s.length).reverse := by
    unfold idx
    rw [List.drop_reverse, idxr_length, List.length_reverse, show g.length - (g.length - s.length) = s.length by omega]
  have ho : (List.zipWith (fun c x => if c = 1 then 0 else x) s ((idx g p).drop (g.length - s.length))).reverse = own s.reverse (idxr g.reverse p) := by
    rw [hr, List.reverse_zipWith (by simp [idxr_length]; omega), List.reverse_reverse, ← own_zip]
    have := own_take s.reverse (idxr g.reverse p)
    rw [List.length_reverse] at this
    exact this
  have hk2 : okr g.reverse (idxr g.reverse p) = true := (plr_idxr (rev_pos hg) h0 (by rw [← siz_chk hg]; exact h1)).2
  have hok := okr_own (fitr_fits h) hk2
  rw [← ho] at hok
  rw [show pl s (List.zipWith (fun c x => if c = 1 then 0 else x) s ((idx g p).drop (g.length - s.length))) = (plc s _, 0) from if_pos ⟨hs, hok⟩]
  simp only [plc, ho]
  rfl
theorem rspread_l0 {s d g : List Int} (ht : tchk s d = true) (h : fits s g = true) (N : Nat) (hN : siz g = N) (e : Nat) : ∀ (k i : Nat), N - i = e → i ≤ N → e + 100 ≤ k →
    fullerref03_Spread.l0 k g ((List.range' 0 i).map fun i : Nat => rd d (fr s g (i : Int))) (i : Int) s d = some (g, (List.range' 0 N).map (fun i : Nat => rd d (fr s g (i : Int))), 0) := by
  have := siz_le g
  obtain ⟨hc, hl⟩ := tchk_iff.mp ht
  induction e with
  | zero =>
    intro k i hd hi hk
    obtain ⟨k, rfl⟩ : ∃ m, k = m + 1 := ⟨k - 1, by omega⟩
    rw [fullerref03_Spread.l0, rsize_f g k (by omega)]
    simp only [Option.bind_some]
    rw [if_neg (by omega), show i = N by omega]
  | succ e ih =>
    intro k i hd hi hk
    obtain ⟨k, rfl⟩ : ∃ m, k = m + 1 := ⟨k - 1, by omega⟩
    rw [fullerref03_Spread.l0, rsize_f g k (by omega)]
    simp only [Option.bind_some]
    obtain ⟨f0, f1⟩ := fr_lt h (p := (i : Int)) (by omega) (by omega)
    rw [if_pos (by omega), rfrom_f h (by omega) (by omega) k (by omega)]
    simp only [Option.bind_some]
    have := ih k (i + 1) (by omega) (by omega) (by omega)
    rw [List.range'_concat, List.map_append] at this
    rw [if_pos f0, if_pos (by omega), if_pos (by simp; omega), w64 (by omega) (by omega)]
    simpa using this
theorem rspread_f (s d g : List Int) (k : Nat) (hk : 200 ≤ k) : fullerref03_Spread.f k s d g = some (spreadT s d g) := by
  unfold fullerref03_Spread.f spreadT
  rw [rtcheck_f s d k (by omega)]
  simp only [Option.bind_some]
  by_cases ht : tchk s d = true
  · rw [if_pos ht, if_pos ht, rfits_f s g k (by omega)]
    simp only [Option.bind_some]
    by_cases hf : fits s g = true
    · rw [if_pos hf, if_pos hf]
      have := siz_le g
      have := siz_nonneg g
      exact rspread_l0 ht hf (siz g).toNat (by omega) (siz g).toNat k 0 (by omega) (by omega) (by omega)
    · rw [if_neg hf, if_neg hf]
  · rw [if_neg ht, if_neg ht]
theorem rfold_l0 {s d t : List Int} (ht : tchk s d = true) (h : fits t s = true) (hd : in64 d) (N : Nat) (hN : siz s = N) (e : Nat) : ∀ (k i : Nat) (st : List Int), N - i = e → i ≤ N → e + 100 ≤ k → in64 st → (st.length : Int) = siz t →
    fullerref03_Fold.l0 k t st (i : Int) s d = some (if (addF (fun i : Nat => fr t s (i : Int)) (fun i => rd d (i : Int)) e i st).2 = 0 then (t, (addF (fun i : Nat => fr t s (i : Int)) (fun i => rd d (i : Int)) e i st).1, 0) else ([], [], (addF (fun i : Nat => fr t s (i : Int)) (fun i => rd d (i : Int)) e i st).2)) := by
  have := siz_le s
  obtain ⟨hc, hl⟩ := tchk_iff.mp ht
  induction e with
  | zero =>
    intro k i st he hi hk hst hsl
    obtain ⟨k, rfl⟩ : ∃ m, k = m + 1 := ⟨k - 1, by omega⟩
    rw [fullerref03_Fold.l0, if_neg (by omega)]
    rfl
  | succ e ih =>
    intro k i st he hi hk hst hsl
    obtain ⟨k, rfl⟩ : ∃ m, k = m + 1 := ⟨k - 1, by omega⟩
    obtain ⟨f0, f1⟩ := fr_lt h (p := (i : Int)) (by omega) (by omega)
    have b1 := in64_rd hst (fr t s (i : Int))
    have b2 := in64_rd hd (i : Int)
    rw [fullerref03_Fold.l0, if_pos (by omega), rfrom_f h (by omega) (by omega) k (by omega)]
    simp only [Option.bind_some]
    rw [if_pos f0, if_pos (by omega), if_pos (by omega), radd_f b1.1 b1.2 b2.1 b2.2, inw_eq]
    simp only [Option.bind_some, addF]
    by_cases hc : -9223372036854775808 ≤ rd st (fr t s (i : Int)) + rd d (i : Int) ∧ rd st (fr t s (i : Int)) + rd d (i : Int) ≤ 9223372036854775807
    · rw [if_pos hc, if_pos hc]
      simp only [if_true]
      rw [w64 (by omega) (by omega)]
      exact ih k (i + 1) _ (by omega) (by omega) (by omega) (in64_set hst _ hc) (by simp; omega)
    · rw [if_neg hc, if_neg hc]
      simp
theorem rfold_f (s d t : List Int) (hd : in64 d) (k : Nat) (hk : 200 ≤ k) : fullerref03_Fold.f k s d t = some (foldT s d t) := by
  unfold fullerref03_Fold.f foldT
  rw [rtcheck_f s d k (by omega)]
  simp only [Option.bind_some]
  by_cases ht : tchk s d = true
  · rw [if_pos ht, if_pos ht, rfits_f t s k (by omega)]
    simp only [Option.bind_some]
    by_cases hf : fits t s = true
    · obtain ⟨hc, hl⟩ := tchk_iff.mp ht
      have := siz_le s
      have := siz_nonneg s
      have := siz_le t
      have := siz_nonneg t
      rw [if_pos hf, if_pos hf, rsize_f t k (by omega)]
      simp only [Option.bind_some]
      rw [if_pos (by omega), if_pos (by omega)]
      exact rfold_l0 ht hf hd (siz s).toNat (by omega) (siz s).toNat k 0 _ (by omega) (by omega) (by omega) (fun x hx => by rw [(List.mem_replicate.mp hx).2]; omega) (by simp; omega)
    · rw [if_neg hf, if_neg hf]
  · rw [if_neg ht, if_neg ht]
end Go.Proofs.Ytoiaegbhnpddlaa.Plain
