/- For all versions, numbers and stamps ChainCuts answers true; no conditions but the sizes that the statement names. -/
import Derived.Test.YtdjlpbekoggmiaaAx24
import Derived.Test.YtdjlpbekoggmiaaChainB
import Derived.Test.YtdjlpbekoggmiaaChainAwake
import Derived.Test.YtdjlpbekoggmiaaChainC
namespace Go.Proofs.Ytdjlpbekoggmiaa.Pure
open Go.RowKit Go.Proofs.Ytdjlpbekoggmiaa.A Go.Proofs.YtdjlpbekoggmiaaW.PrintWords Go.Proofs.YtdjlpbekoggmiaaW.PrintLast Go.Proofs.YtdjlpbekoggmiaaW.PrintMore Go.Proofs.Ytdjlpbekoggmiaa.Plain

theorem cuts_l0 (l : List S41) (a : Int) (b : Bool) (c : Int) (is has ah : Bool) (A B C D : List Int) (hm : l.length ≤ 1000000000000000) (d : Nat) : ∀ (k i : Nat) (o : Int), l.length - i = d → i ≤ l.length → d + 1 ≤ k →
    fullerlaw17_ChainCuts.l0 k l a b c is has ah o (i : Int) A B C D = fullerlaw17_ChainCuts.l0 (k - d) l a b c is has ah (lastAt a (l.drop i) i o) (l.length : Int) A B C D := by
  induction d with
  | zero =>
    intro k i o hd hi hk
    obtain rfl : i = l.length := by omega
    rw [List.drop_eq_nil_of_le (Nat.le_refl _)]
    simp [lastAt]
  | succ d ih =>
    intro k i o hd hi hk
    obtain ⟨k, rfl⟩ : ∃ q, k = q + 1 := ⟨k - 1, by omega⟩
    have hlt : i < l.length := by omega
    have hw : wrap64 ((i : Int) + 1) = ((i + 1 : Nat) : Int) := by rw [w64 (by omega) (by omega)]; omega
    rw [show k + 1 - (d + 1) = k - d by omega]
    conv => lhs; rw [fullerlaw17_ChainCuts.l0]
    rw [if_pos (by omega), if_pos (by omega), rdV hlt, dropV hlt, hw]
    simp only [lastAt]
    by_cases hv : l[i].f0 ≤ a
    · rw [if_pos hv, if_pos hv, ih k (i + 1) i (by omega) (by omega) (by omega)]; simp
    · rw [if_neg hv, if_neg hv, ih k (i + 1) o (by omega) (by omega) (by omega)]; simp
theorem ChainCuts : fullerlaw17_ChainCuts.Pure := by
  intro l n a hl hn ha
  have hm : l.length ≤ 2513169434843 := by omega
  refine ⟨l.length + 5000, ?_⟩
  unfold fullerlaw17_ChainCuts.f
  rw [awake_f _ (by omega), fewV_f l (by omega) _ (by omega)]
  simp only [Option.bind_some]
  cases hf : fewV l with
  | false =>
    rw [if_neg (by simp), show l.length + 5000 = (l.length + 4999) + 1 from rfl, fullerlaw17_ChainCuts.j0, if_pos rfl]
  | true =>
    obtain ⟨hl30, hle⟩ := fewV_iff hf
    rw [if_pos rfl, vchk_f l (by omega) _ (by omega)]
    simp only [Option.bind_some]
    rw [show l.length + 5000 = (l.length + 4999) + 1 from rfl, fullerlaw17_ChainCuts.j0]
    cases hv : vchk l with
    | false => rw [if_pos (by simp)]
    | true =>
      have hn2 : 0 ≤ n ∧ n ≤ 255 := by simp only [Lit.wf, Bool.and_eq_true, decide_eq_true_eq] at hn; exact hn
      have hw : wrap64 ((l.length : Int) + 1) = ((l.length + 1 : Nat) : Int) := by rw [w64 (by omega) (by omega)]; omega
      obtain ⟨c, hc, hc2⟩ : ∃ c : Nat, Int.tmod (wrap64 n) (wrap64 ((l.length : Int) + 1)) = (c : Int) ∧ c ≤ l.length := by
        rw [hw, w64 (by omega) (by omega), Int.tmod_eq_emod_of_nonneg hn2.1]
        have h1 := Int.emod_nonneg n (show ((l.length + 1 : Nat) : Int) ≠ 0 by omega)
        have h2 := Int.emod_lt_of_pos n (show 0 < ((l.length + 1 : Nat) : Int) by omega)
        exact ⟨(n % ((l.length + 1 : Nat) : Int)).toNat, by omega, by omega⟩
      rw [if_neg (by simp), if_neg (by rw [hw]; omega)]
      simp only [hc]
      rw [read_f l a (by omega) _ (by omega)]
      simp only [Option.bind_some]
      have hvt := vchk_take hv c
      have htl : (l.take c).length ≤ l.length := by simp; omega
      rw [if_pos (by omega), if_pos (by omega), Int.toNat_natCast, read_f _ a (by omega) _ (by omega)]
      simp only [Option.bind_some]
      have hble := bh_le l a
      have key : ∀ ah : Bool, (ah = true → bh l a ≤ c) → fullerlaw17_ChainCuts.j1 (l.length + 4999) l a true (c : Int) (rdv l a).2.2 (rdv (l.take c) a).2.2 ah (rdv l a).1 (rdv l a).2.1 (rdv (l.take c) a).1 (rdv (l.take c) a).2.1 = some true := by
        intro ah hah
        have hr := rdv_len l a
        rw [show l.length + 4999 = (l.length + 4998) + 1 from rfl, fullerlaw17_ChainCuts.j1,
          show (0 : Int) = ((0 : Nat) : Int) from rfl, cuts_l0 l a true _ _ _ _ _ _ _ _ (by omega) l.length (l.length + 4998) 0 (-1) (by omega) (by omega) (by omega), List.drop_zero]
        have hat := at_ok l a hv
        simp only [Int.natCast_zero]
        rw [hat]
        obtain ⟨q, hq, hq2⟩ : ∃ q, l.length + 4998 - l.length = q + 1 ∧ 4000 ≤ q := ⟨l.length + 4998 - l.length - 1, by omega, by omega⟩
        rw [hq, fullerlaw17_ChainCuts.l0, if_neg (by omega)]
        have same : ah = true → rdv (l.take c) a = rdv l a := fun h => by
          have h1 := hah h
          have h2 := bh_take l a c
          refine rdv_alike hvt hv (by omega) (fun h3 h4 => ?_)
          rw [List.getElem_take]
          congr 1
          omega
        have last : ∀ t : Bool, (if ah = true then if ((rdv l a).2.2 == (rdv (l.take c) a).2.2) = true then (fullerref03_Same.f q (rdv l a).1 (rdv l a).2.1 (rdv (l.take c) a).1 (rdv (l.take c) a).2.1).bind fun t => some t else none else some true) = some true := by
          intro _
          by_cases h : ah = true
          · rw [if_pos h, same h, if_pos (by simp), tsame_f _ _ _ (by omega) (by omega)]
            rfl
          · rw [if_neg h]
        by_cases h0 : bh l a = 0
        · rw [if_pos (by omega)]
          have e : (rdv l a).2.2 = false := by rw [rdv_none h0]
          rw [if_neg (by rw [e]; simp), if_pos rfl, if_pos (by omega), if_pos (by omega), Int.toNat_natCast, vchk_f _ (by omega) _ (by omega), hvt]
          simp only [Option.bind_some, if_true]
          exact last true
        · have e := rdv_ok hv (show 0 < bh l a by omega)
          have hmx : mx 0 ((bh l a : Int) - 1) = ((bh l a - 1 : Nat) : Int) := by unfold mx; split <;> omega
          rw [if_neg (by omega), if_pos (by omega), if_pos (by rw [e]), hmx, if_pos (by omega), if_pos (by omega), rdV (by omega)]
          have e1 : (rdv l a).1 = (l[bh l a - 1]'(by omega)).f1.f0 := by rw [e]
          have e2 : (rdv l a).2.1 = (l[bh l a - 1]'(by omega)).f1.f1 := by rw [e]
          rw [← e1, ← e2, tsame_f _ _ _ (by omega) (by omega)]
          simp only [Option.bind_some, if_true]
          rw [if_pos (by omega), if_pos (by omega), Int.toNat_natCast, vchk_f _ (by omega) _ (by omega), hvt]
          simp only [Option.bind_some, if_true]
          exact last true
      by_cases hcl : (c : Int) = (l.length : Int)
      · rw [if_pos hcl]
        exact key true (fun _ => by omega)
      · have hmn : mn (c : Int) (mx 0 (wrap64 ((l.length : Int) - 1))) = (c : Int) := by
          rw [mx_nat _ (by omega)]
          unfold mn
          split <;> omega
        rw [if_neg hcl, hmn, if_pos (by omega), if_pos (by omega), rdV (by omega)]
        refine key _ (fun h => ?_)
        have h1 : a < (l[c]'(by omega)).f0 := of_decide_eq_true h
        by_cases h2 : bh l a ≤ c
        · exact h2
        · have h3 := bh_take l a (c + 1)
          have h4 : bh (l.take (c + 1)) a = c + 1 := by omega
          have h5 : ∀ v ∈ l.take (c + 1), v.f0 ≤ a := by
            have hw2 : ((l.take (c + 1)).takeWhile fun v => decide (v.f0 ≤ a)) = l.take (c + 1) := (List.takeWhile_sublist _).eq_of_length (by show bh _ _ = _; rw [h4]; simp; omega)
            intro v hv2
            rw [← hw2] at hv2
            have := List.all_takeWhile (p := fun v : S41 => decide (v.f0 ≤ a)) (l := l.take (c + 1))
            exact of_decide_eq_true (List.all_eq_true.mp this v hv2)
          have := h5 (l[c]'(by omega)) (List.mem_iff_getElem.mpr ⟨c, by simp; omega, by simp⟩)
          omega
end Go.Proofs.Ytdjlpbekoggmiaa.Pure
