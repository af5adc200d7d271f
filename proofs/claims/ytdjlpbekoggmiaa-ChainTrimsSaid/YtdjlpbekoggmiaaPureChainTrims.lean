/- For all versions and stamps ChainTrims answers true; no conditions but the sizes that the statement names. -/
import Derived.Test.YtdjlpbekoggmiaaAx23
import Derived.Test.YtdjlpbekoggmiaaChainB
import Derived.Test.YtdjlpbekoggmiaaChainAwake
import Derived.Test.YtdjlpbekoggmiaaChainC
namespace Go.Proofs.Ytdjlpbekoggmiaa.Pure
open Go.RowKit Go.Proofs.Ytdjlpbekoggmiaa.A Go.Proofs.YtdjlpbekoggmiaaW.PrintWords Go.Proofs.YtdjlpbekoggmiaaW.PrintLast Go.Proofs.YtdjlpbekoggmiaaW.PrintMore Go.Proofs.Ytdjlpbekoggmiaa.Plain

theorem trims_l0 (l m : List S41) (a at_ : Int) (b is has : Bool) (A B C D : List Int) (hm : m.length ≤ 1000000000000000) (d : Nat) : ∀ (k i : Nat) (o : Int), m.length - i = d → i ≤ m.length → d + 1 ≤ k → 0 ≤ o → o ≤ i →
    fullerlaw17_ChainTrims.l0 k l a at_ b m is has o (i : Int) A B C D = fullerlaw17_ChainTrims.l0 (k - d) l a at_ b m is has (o + cnt a (m.drop i)) (m.length : Int) A B C D := by
  induction d with
  | zero =>
    intro k i o hd hi hk h0 h1
    obtain rfl : i = m.length := by omega
    rw [List.drop_eq_nil_of_le (Nat.le_refl _)]
    simp [cnt]
  | succ d ih =>
    intro k i o hd hi hk h0 h1
    obtain ⟨k, rfl⟩ : ∃ q, k = q + 1 := ⟨k - 1, by omega⟩
    have hlt : i < m.length := by omega
    have hw : wrap64 ((i : Int) + 1) = ((i + 1 : Nat) : Int) := by rw [w64 (by omega) (by omega)]; omega
    have hwo : wrap64 (o + 1) = o + 1 := w64 (by omega) (by omega)
    rw [show k + 1 - (d + 1) = k - d by omega]
    conv => lhs; rw [fullerlaw17_ChainTrims.l0]
    rw [if_pos (by omega), if_pos (by omega), rdV hlt, dropV hlt, hw, hwo]
    simp only [cnt]
    by_cases hv : m[i].f0 ≤ a
    · rw [if_pos hv, if_pos hv, ih k (i + 1) (o + 1) (by omega) (by omega) (by omega) (by omega) (by omega), Int.add_assoc]
    · rw [if_neg hv, if_neg hv, ih k (i + 1) o (by omega) (by omega) (by omega) (by omega) (by omega), Int.zero_add]
theorem ChainTrims : fullerlaw17_ChainTrims.Pure := by
  intro l a at_ hl ha hat
  have hm : l.length ≤ 2513169434843 := by omega
  refine ⟨l.length + 5000, ?_⟩
  unfold fullerlaw17_ChainTrims.f
  rw [awake_f _ (by omega), fewV_f l (by omega) _ (by omega)]
  simp only [Option.bind_some]
  cases hf : fewV l with
  | false =>
    rw [if_neg (by simp), show l.length + 5000 = (l.length + 4999) + 1 from rfl, fullerlaw17_ChainTrims.j0, if_pos rfl]
  | true =>
    obtain ⟨hl30, hle⟩ := fewV_iff hf
    rw [if_pos rfl, vchk_f l (by omega) _ (by omega)]
    simp only [Option.bind_some]
    rw [show l.length + 5000 = (l.length + 4999) + 1 from rfl, fullerlaw17_ChainTrims.j0]
    cases hv : vchk l with
    | false => rw [if_pos (by simp)]
    | true =>
      have hTl := tr_len l a
      have hT : ∀ v ∈ tr l a, v.f1.f0.length ≤ 100 ∧ v.f1.f1.length ≤ 100 := fun v hv => hle v (tr_sub l a hv)
      have eT : tr l a = l.drop (bh l a - 1) := by unfold tr; rw [if_pos hv]
      have hvT : vchk (tr l a) = true := by rw [eT]; exact vchk_drop hv _
      have hasc := (vchk_iff.mp hv).2.1
      have hd := fun b => bh_drop (a := b) (bh l a - 1) hasc
      have hb0 := bh_le l a
      have hb1 := bh_le l at_
      have hlenT : (tr l a).length = l.length - (bh l a - 1) := by rw [eT]; simp
      have hmx : a ≤ mx at_ a := by unfold mx; split <;> omega
      rw [if_neg (by simp), trim_f l a (by omega) _ (by omega)]
      simp only [Option.bind_some]
      rw [read_f l _ (by omega) _ (by omega), read_f _ _ (by omega) _ (by omega)]
      simp only [Option.bind_some]
      rw [rdv_trim hv hmx]
      have hr := rdv_len l (mx at_ a)
      have hc := cnt_asc a (vchk_iff.mp hvT).2.1
      have hbT : bh (tr l a) a = bh l a - (bh l a - 1) := by rw [eT]; exact hd a
      have hcb := cnt_bound a (tr l a)
      have hh := trims_l0 l (tr l a) a at_ true (rdv l (mx at_ a)).2.2 (rdv l (mx at_ a)).2.2 (rdv l (mx at_ a)).1 (rdv l (mx at_ a)).2.1 (rdv l (mx at_ a)).1 (rdv l (mx at_ a)).2.1 (by omega) (tr l a).length (l.length + 4999) 0 0 (by omega) (by omega) (by omega) (by omega) (by simp)
      simp only [List.drop_zero, Int.zero_add, Int.natCast_zero] at hh
      rw [hh]
      obtain ⟨q, hq, hq2⟩ : ∃ q, l.length + 4999 - (tr l a).length = q + 1 ∧ 4000 ≤ q := ⟨l.length + 4999 - (tr l a).length - 1, by omega, by omega⟩
      rw [hq, fullerlaw17_ChainTrims.l0, if_neg (by omega), if_pos rfl, if_pos (by simp), tsame_f _ _ _ (by omega) (by omega)]
      simp only [Option.bind_some, if_true]
      rw [if_pos (by omega), trim_f _ a (by omega) _ (by omega)]
      simp only [Option.bind_some]
      have eTT : tr (tr l a) a = tr l a := by
        have : tr (tr l a) a = (tr l a).drop (bh (tr l a) a - 1) := by
          conv => lhs; unfold tr
          rw [show (if vchk l = true then l.drop (bh l a - 1) else l) = tr l a from rfl, if_pos hvT]
        rw [this, show bh (tr l a) a - 1 = 0 by omega, List.drop_zero]
      rw [eTT, vsame_f _ 100 hT _ (by omega) (by omega)]
      simp only [Option.bind_some, if_true]
      rw [vchk_f _ (by omega) _ (by omega), hvT]
      simp only [Option.bind_some, if_true]
      rw [if_pos (by omega), newer_f _ at_ (by omega) _ (by omega), newer_f l at_ (by omega) _ (by omega)]
      simp only [Option.bind_some]
      have hbA : bh (tr l a) at_ = bh l at_ - (bh l a - 1) := by rw [eT]; exact hd at_
      have : nw (tr l a) at_ = nw l at_ := by
        simp only [nw, hv, hvT, Bool.true_and]
        exact decide_eq_decide.mpr (by omega)
      rw [this]
      simp
end Go.Proofs.Ytdjlpbekoggmiaa.Pure
