/- For all two lists ChainMany answers true; no conditions but the sizes that the statement names. -/
import Derived.Test.YtdjlpbekoggmiaaAx25
import Derived.Test.YtdjlpbekoggmiaaChainB
import Derived.Test.YtdjlpbekoggmiaaChainAwake
import Derived.Test.YtdjlpbekoggmiaaChainC
namespace Go.Proofs.Ytdjlpbekoggmiaa.Pure
open Go.RowKit Go.Proofs.Ytdjlpbekoggmiaa.A Go.Proofs.YtdjlpbekoggmiaaW.PrintWords Go.Proofs.YtdjlpbekoggmiaaW.PrintLast Go.Proofs.YtdjlpbekoggmiaaW.PrintMore Go.Proofs.Ytdjlpbekoggmiaa.Plain

/-- The stamp of the i-th tensor; 0: ahead of all. -/
def stampAt (gs : List Int) (i : Nat) : Int := ((gs.take i).map fun g => 1 + g).sum
theorem stamp_succ {gs : List Int} {i : Nat} (h : i < gs.length) : stampAt gs (i + 1) = stampAt gs i + 1 + gs[i] := by
  unfold stampAt
  rw [List.take_succ_eq_append_getElem h, List.map_append, List.sum_append]
  simp only [List.map_cons, List.map_nil, List.sum_cons, List.sum_nil]
  omega
theorem stamp_bound {gs : List Int} (hg : ∀ g ∈ gs, 0 ≤ g ∧ g ≤ 255) : ∀ i, i ≤ gs.length → (i : Int) ≤ stampAt gs i ∧ stampAt gs i ≤ 256 * i := by
  intro i
  induction i with
  | zero => intro _; simp [stampAt]
  | succ i ih =>
    intro h
    have := ih (by omega)
    have h2 := hg _ (List.getElem_mem (show i < gs.length by omega))
    rw [stamp_succ (by omega)]
    omega
/-- The versions when n have been put. -/
def vl (xs gs : List Int) (n : Nat) : List S41 := (List.range (min n 16)).map fun j => ⟨stampAt gs (j + 1), ⟨[], [xs.getD j 0]⟩⟩
theorem vl_len (xs gs : List Int) (n : Nat) : (vl xs gs n).length = min n 16 := by simp [vl]
theorem vl_at {xs gs : List Int} {n j : Nat} (h : j < (vl xs gs n).length) : (vl xs gs n)[j] = ⟨stampAt gs (j + 1), ⟨[], [xs.getD j 0]⟩⟩ := by simp [vl]
theorem vl_succ {xs gs : List Int} {n : Nat} (h : n < 16) : vl xs gs (n + 1) = vl xs gs n ++ [⟨stampAt gs (n + 1), ⟨[], [xs.getD n 0]⟩⟩] := by
  unfold vl
  rw [show min (n + 1) 16 = n + 1 by omega, show min n 16 = n by omega, List.range_succ, List.map_append]
  rfl
theorem vl_more {xs gs : List Int} {n : Nat} (h : 16 ≤ n) : vl xs gs (n + 1) = vl xs gs n := by
  unfold vl
  rw [show min (n + 1) 16 = 16 by omega, show min n 16 = 16 by omega]
theorem one_tchk (x : Int) : tchk [] [x] = true := rfl
theorem vl_last {xs gs : List Int} {n : Nat} (h0 : 0 < n) : (vl xs gs n).getLast? = some ⟨stampAt gs (min n 16), ⟨[], [xs.getD (min n 16 - 1) 0]⟩⟩ := by
  rw [List.getLast?_eq_getElem?, vl_len, List.getElem?_eq_getElem (by rw [vl_len]; omega), vl_at]
  rw [show min n 16 - 1 + 1 = min n 16 by omega]
theorem vl_ok {xs gs : List Int} (hg : ∀ g ∈ gs, 0 ≤ g ∧ g ≤ 255) : ∀ n, n ≤ gs.length → vchk (vl xs gs n) = true := by
  intro n
  induction n with
  | zero => intro _; rfl
  | succ n ih =>
    intro h
    have hv := ih (by omega)
    rcases Nat.lt_or_ge n 16 with h16 | h16
    · rw [vl_succ h16]
      refine vchk_snoc hv ⟨one_tchk _, fun h0 => ?_, by rw [vl_len]; omega⟩ ?_
      · have h1 : 0 < (vl xs gs n).length := h0
        rw [← rd_head h0, show (0 : Int) = ((0 : Nat) : Int) from rfl, rdV h1, vl_at]
      · have hb := stamp_bound hg (n + 1) h
        rcases Nat.eq_zero_or_pos n with h0 | h0
        · subst h0
          simp only [vl, Nat.zero_min, List.range_zero, List.map_nil, List.getLast?_nil, asc, Bool.and_true, decide_eq_true_eq]
          omega
        · rw [vl_last h0]
          have := stamp_succ (gs := gs) (i := n) (by omega)
          have h2 := hg _ (List.getElem_mem (show n < gs.length by omega))
          simp only [asc, Bool.and_true, decide_eq_true_eq]
          rw [show min n 16 = n by omega]
          omega
    · rw [vl_more h16]; exact hv
theorem next_stamp {gs : List Int} (hg : ∀ g ∈ gs, 0 ≤ g ∧ g ≤ 255) {i : Nat} (h : i < gs.length) (hi : i ≤ 1000) : wrap64 (wrap64 (stampAt gs i + 1) + wrap64 (rd gs (i : Int))) = stampAt gs (i + 1) := by
  have h1 := stamp_bound hg i (by omega)
  have h2 := hg _ (List.getElem_mem h)
  have hr := rd_lt h
  rw [hr, w64 (show -9223372036854775808 ≤ stampAt gs i + 1 by omega) (by omega), w64 (show -9223372036854775808 ≤ gs[i] by omega) (by omega), w64 (by omega) (by omega), stamp_succ h]
theorem many_put {xs gs : List Int} (hg : ∀ g ∈ gs, 0 ≤ g ∧ g ≤ 255) {i : Nat} (h : i < gs.length) (hx : i < xs.length) : pv (vl xs gs i) (stampAt gs (i + 1)) [] [rd xs (i : Int)] = (vl xs gs (i + 1), if i < 16 then 0 else 171) := by
  have hv := vl_ok (xs := xs) hg i (by omega)
  have hb := stamp_bound hg (i + 1) (by omega)
  have hlate : late (vl xs gs i) (stampAt gs (i + 1)) = false := by
    unfold late
    rcases Nat.eq_zero_or_pos i with h0 | h0
    · subst h0; rfl
    · rw [vl_last h0]
      have hmono : stampAt gs (min i 16) < stampAt gs (i + 1) := by
        have key : ∀ q, q ≤ i → stampAt gs q ≤ stampAt gs i := by
          intro q hq
          obtain ⟨e, rfl⟩ : ∃ e, i = q + e := ⟨i - q, by omega⟩
          have : ∀ e, q + e ≤ gs.length → stampAt gs q ≤ stampAt gs (q + e) := by
            intro e
            induction e with
            | zero => intro _; exact Int.le_refl _
            | succ e ih =>
              intro he
              have h3 := ih (by omega)
              have h4 := hg _ (List.getElem_mem (show q + e < gs.length by omega))
              rw [show q + (e + 1) = q + e + 1 by omega, stamp_succ (by omega)]
              omega
          exact this e (by omega)
        have h5 := key (min i 16) (by omega)
        have h6 := hg _ (List.getElem_mem h)
        rw [stamp_succ h]
        omega
      simp only
      exact decide_eq_false (by omega)
  have hhd : (decide (0 < (vl xs gs i).length) && !decide (hd (vl xs gs i) = [])) = false := by
    by_cases h0 : 0 < (vl xs gs i).length
    · have : hd (vl xs gs i) = [] := by rw [← rd_head h0, show (0 : Int) = ((0 : Nat) : Int) from rfl, rdV h0, vl_at]
      simp [this]
    · simp [h0]
  have hrd : rd xs (i : Int) = xs.getD i 0 := by rw [rd_lt hx, List.getD_eq_getElem?_getD, List.getElem?_eq_getElem hx]; rfl
  unfold pv
  rw [if_neg (by rw [hlate, hv, decide_eq_false (show ¬ stampAt gs (i + 1) < 0 by omega)]; simp), one_tchk, if_neg (by simp), hhd, if_neg (by simp), vl_len]
  rcases Nat.lt_or_ge i 16 with h16 | h16
  · rw [if_neg (by omega), vl_succ h16, if_pos h16, hrd]
  · rw [if_pos (by omega), vl_more h16, if_neg (by omega)]
theorem many_l0 (xs gs : List Int) (h30 : xs.length ≤ 30) (hle : xs.length ≤ gs.length) (hg : ∀ g ∈ gs, 0 ≤ g ∧ g ≤ 255) (d : Nat) : ∀ (k i : Nat), xs.length - i = d → i ≤ xs.length → d + 2000 ≤ k →
    fullerlaw17_ChainMany.l0 k xs gs true (vl xs gs i) (stampAt gs i) (i : Int) = fullerlaw17_ChainMany.l1 (k - d - 1) xs gs true (vl xs gs xs.length) 0 0 := by
  induction d with
  | zero =>
    intro k i hd hi hk
    obtain rfl : i = xs.length := by omega
    obtain ⟨k, rfl⟩ : ∃ q, k = q + 1 := ⟨k - 1, by omega⟩
    rw [fullerlaw17_ChainMany.l0, if_neg (by omega)]
    rfl
  | succ d ih =>
    intro k i hd hi hk
    obtain ⟨k, rfl⟩ : ∃ q, k = q + 1 := ⟨k - 1, by omega⟩
    have hw : wrap64 ((i : Int) + 1) = ((i + 1 : Nat) : Int) := by rw [w64 (by omega) (by omega)]; omega
    have hl := vl_len xs gs i
    rw [fullerlaw17_ChainMany.l0, if_pos (by omega), if_pos (by omega), if_pos (by omega), next_stamp hg (by omega) (by omega), put_f _ _ _ _ (by omega) _ (by omega), many_put hg (by omega) (by omega)]
    simp only [Option.bind_some]
    have step := ih k (i + 1) (by omega) (by omega) (by omega)
    rw [show k + 1 - (d + 1) - 1 = k - d - 1 by omega, ← step, hw]
    rcases Nat.lt_or_ge i 16 with h16 | h16
    · rw [if_pos h16, if_neg (by rw [decide_eq_true (show (i : Int) < 16 by omega)]; simp), if_neg (by omega)]
    · rw [if_neg (show ¬ i < 16 by omega), if_neg (by rw [decide_eq_false (show ¬ (i : Int) < 16 by omega)]; simp), if_pos (by omega), if_pos rfl]
theorem many_l1 (xs gs : List Int) (h30 : xs.length ≤ 30) (hle : xs.length ≤ gs.length) (hg : ∀ g ∈ gs, 0 ≤ g ∧ g ≤ 255) (d : Nat) : ∀ (k i : Nat), min xs.length 16 - i = d → i ≤ min xs.length 16 → 2 * d + 200 ≤ k →
    fullerlaw17_ChainMany.l1 k xs gs true (vl xs gs xs.length) (stampAt gs i) (i : Int) = some true := by
  have hv := vl_ok (xs := xs) hg xs.length hle
  have hl := vl_len xs gs xs.length
  have hasc := (vchk_iff.mp hv).2.1
  induction d with
  | zero =>
    intro k i hd hi hk
    obtain ⟨k, rfl⟩ : ∃ q, k = q + 2 := ⟨k - 2, by omega⟩
    have fin : fullerlaw17_ChainMany.j3 (k + 1) xs gs true (vl xs gs xs.length) (stampAt gs i) (i : Int) false = some true := by
      rw [fullerlaw17_ChainMany.j3, if_neg (by simp), if_pos rfl, hl]
      have : mn (xs.length : Int) 16 = ((min xs.length 16 : Nat) : Int) := by unfold mn; split <;> omega
      rw [this]
      simp
    rw [fullerlaw17_ChainMany.l1]
    by_cases h : (i : Int) < (xs.length : Int)
    · rw [if_pos h, decide_eq_false (by omega)]; exact fin
    · rw [if_neg h]; exact fin
  | succ d ih =>
    intro k i hd hi hk
    obtain ⟨k, rfl⟩ : ∃ q, k = q + 2 := ⟨k - 2, by omega⟩
    have hi1 : i < xs.length := by omega
    have hiv : i < (vl xs gs xs.length).length := by omega
    have hw : wrap64 ((i : Int) + 1) = ((i + 1 : Nat) : Int) := by rw [w64 (by omega) (by omega)]; omega
    have hb := stamp_bound hg (i + 1) (by omega)
    have hwm : wrap64 (stampAt gs (i + 1) - 1) = stampAt gs (i + 1) - 1 := w64 (by omega) (by omega)
    have e1 := bh_at hasc i hiv
    have e2 := bh_under hasc i hiv
    rw [vl_at] at e1 e2
    have hrd : ∀ (j : Nat) (h : j < xs.length), rd xs (j : Int) = xs.getD j 0 := fun j h => by rw [rd_lt h, List.getD_eq_getElem?_getD, List.getElem?_eq_getElem h]; rfl
    have r1 : rdv (vl xs gs xs.length) (stampAt gs (i + 1)) = ([], [rd xs (i : Int)], true) := by
      rw [rdv_ok hv (by rw [e1]; omega)]
      simp only [e1, Nat.add_sub_cancel]
      rw [vl_at, hrd i hi1]
    rw [fullerlaw17_ChainMany.l1, if_pos (by omega), decide_eq_true (show (i : Int) < 16 by omega), fullerlaw17_ChainMany.j3, if_pos rfl, if_pos (by omega), if_pos (by omega), next_stamp hg (by omega) (by omega), hwm, read_f _ _ (by omega) _ (by omega), read_f _ _ (by omega) _ (by omega), r1]
    simp only [Option.bind_some, if_true]
    rw [if_pos (by omega), same_f _ _ (by simp) _ (by simp; omega)]
    simp only [Option.bind_some, decide_true, if_true]
    have step := ih k (i + 1) (by omega) (by omega) (by omega)
    rcases Nat.eq_zero_or_pos i with h0 | h0
    · subst h0
      rw [rdv_none e2, if_neg (by simp), if_neg (by omega), hw]
      exact step
    · have r2 : rdv (vl xs gs xs.length) (stampAt gs (i + 1) - 1) = ([], [rd xs ((i - 1 : Nat) : Int)], true) := by
        rw [rdv_ok hv (by rw [e2]; omega)]
        simp only [e2]
        rw [vl_at, hrd (i - 1) (by omega)]
      have hw1 : wrap64 ((i : Int) - 1) = ((i - 1 : Nat) : Int) := by rw [w64 (by omega) (by omega)]; omega
      rw [r2, if_neg (by rw [decide_eq_true (show (i : Int) > 0 by omega)]; simp), if_pos (by omega), hw1, if_pos (by omega), if_pos (by omega), same_f _ _ (by simp) _ (by simp; omega)]
      simp only [Option.bind_some, decide_true, if_true]
      rw [hw]
      exact step
theorem ChainMany : fullerlaw17_ChainMany.Pure := by
  intro xs gs hx1 hx2 hx3 hg1 hg2 hg3
  refine ⟨xs.length + 5000, ?_⟩
  unfold fullerlaw17_ChainMany.f
  rw [awake_f _ (by omega)]
  simp only [Option.bind_some]
  have out : fullerlaw17_ChainMany.j0 (xs.length + 5000) xs gs true true = some true := by
    rw [show xs.length + 5000 = (xs.length + 4999) + 1 from rfl, fullerlaw17_ChainMany.j0, if_pos rfl]
  by_cases h1 : (xs.length : Int) > 30
  · rw [if_pos h1]; exact out
  · rw [if_neg h1]
    by_cases h2 : (gs.length : Int) < (xs.length : Int)
    · rw [if_pos h2]; exact out
    · rw [if_neg h2]
      by_cases h3 : (gs.length : Int) > 30
      · rw [decide_eq_true h3]; exact out
      · rw [decide_eq_false h3, show xs.length + 5000 = (xs.length + 4999) + 1 from rfl, fullerlaw17_ChainMany.j0, if_neg (by simp)]
        have hg : ∀ g ∈ gs, 0 ≤ g ∧ g ≤ 255 := fun g hg => by
          have := hg3 g hg
          simp only [Lit.wf, Bool.and_eq_true, decide_eq_true_eq] at this
          exact this
        have h := many_l0 xs gs (by omega) (by omega) hg xs.length (xs.length + 4999) 0 (by omega) (by omega) (by omega)
        simp only [vl, Nat.zero_min, List.range_zero, List.map_nil, stampAt, List.take_zero, List.map_nil, List.sum_nil, Int.natCast_zero] at h
        rw [h]
        have h := many_l1 xs gs (by omega) (by omega) hg (min xs.length 16) (xs.length + 4999 - xs.length - 1) 0 (by omega) (by omega) (by omega)
        simp only [stampAt, List.take_zero, List.map_nil, List.sum_nil, Int.natCast_zero] at h
        exact h
end Go.Proofs.Ytdjlpbekoggmiaa.Pure
