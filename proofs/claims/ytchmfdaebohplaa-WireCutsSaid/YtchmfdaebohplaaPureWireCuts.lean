/- For all graphs WireCuts answers true; no conditions but the sizes that the statement names. -/
import Derived.Test.YtchmfdaebohplaaAx14
import Derived.Test.YtchmfdaebohplaaWireAwake
import Derived.Test.YtchmfdaebohplaaWireR
namespace Go.Proofs.Ytchmfdaebohplaa.Pure
open Go.RowKit Go.Proofs.Ytchmfdaebohplaa.A Go.Proofs.YtchmfdaebohplaaW.PrintWords Go.Proofs.YtchmfdaebohplaaW.PrintLast Go.Proofs.YtchmfdaebohplaaW.PrintMore Go.Proofs.Ytchmfdaebohplaa.Plain
set_option linter.unusedVariables false
set_option linter.unusedSimpArgs false
theorem cuts_l0 (l : List S36) (hG : GOk l) (hw : wideG l) (c m : Int) (hc : 0 ≤ c ∧ c ≤ 65535) (hmo : octs [m]) (e : List Int) (he : e = encG l) (d : Nat) : ∀ (k i : Nat), l.length - i = d → i ≤ l.length → d + 2 ≤ k →
    fullerlaw12_WireCuts.l0 k l c m true e (1 + (encNs (l.take i)).length) (i : Int) = some true := by
  have h24 := hG.le
  induction d with
  | zero =>
    intro k i hd hi hk
    obtain ⟨k, rfl⟩ : ∃ q, k = q + 1 := ⟨k - 1, by omega⟩
    have hpos : 0 < e.length := by rw [he]; simp [encG]
    have hle := encG_le hG
    rw [← he] at hle
    have hoe : octs e := by rw [he]; exact octs_encG hG hw
    have e1 : Int.tmod (wrap64 c) (e.length : Int) = c % (e.length : Int) := by rw [w64 (by omega) (by omega), Int.tmod_eq_emod_of_nonneg hc.1]
    have e2 := Int.emod_nonneg c (show (e.length : Int) ≠ 0 by omega)
    have e3 := Int.emod_lt_of_pos c (show (0 : Int) < e.length by omega)
    rw [fullerlaw12_WireCuts.l0, if_neg (by omega), if_neg (by omega), e1, if_pos e2, if_pos (by omega)]
    obtain ⟨q, hq⟩ : ∃ q, (c % (e.length : Int)).toNat = q := ⟨_, rfl⟩
    rw [hq, wread_f (octs_take hoe _) (by simp only [List.length_take]; omega), rdGraph_cut hG hw (t := e.drop q) (by rw [List.take_append_drop, he]) (by intro h; have := congrArg List.length h; simp at this; omega)]
    simp only [Option.bind_some, List.length_nil, Nat.zero_add, List.nil_append]
    rw [if_pos (by omega), if_pos (by omega), wread_f (octs_append hoe hmo) (by simp; omega), show e ++ [m] = encG l ++ [m] by rw [he], rdGraph_put hG hw, if_neg (by simp)]
    simp only [Option.bind_some, if_true]
    rw [List.take_of_length_le (by omega), he]
    simp only [encG, List.length_cons]
    exact congrArg some (beq_iff_eq.mpr (by omega))
  | succ d ih =>
    intro k i hd hi hk
    obtain ⟨k, rfl⟩ : ∃ q, k = q + 1 := ⟨k - 1, by omega⟩
    have hil : i < l.length := by omega
    have ih' := ih k (i + 1) (by omega) (by omega) (by omega)
    have hs := ok_small hG _ (List.getElem_mem hil)
    have hle : (encNs (l.take i)).length ≤ 37 * (l.take i).length := encNs_le (fun n hn => ok_small hG n (List.mem_of_mem_take hn))
    simp only [List.length_take] at hle
    have hst : (encNs (l.take (i + 1))).length = (encNs (l.take i)).length + (3 + l[i].f1.length + 8 * l[i].f2.length) := by
      rw [List.take_succ_eq_append_getElem hil, encNs_append, List.length_append, encNs_cons, List.length_append, encN_len]
      simp [encNs]
    rw [fullerlaw12_WireCuts.l0, if_pos (by omega), if_pos (by omega), rdN hil]
    rw [w64 (x := 1 + ((encNs (l.take i)).length : Int) + 3) (by omega) (by omega), w64 (x := 8 * (l[i].f2.length : Int)) (by omega) (by omega), w64 (x := 1 + ((encNs (l.take i)).length : Int) + 3 + (l[i].f1.length : Int)) (by omega) (by omega), w64 (by omega) (by omega), w64 (x := (i : Int) + 1) (by omega) (by omega)]
    rw [hst] at ih'
    rw [← ih']
    congr 1
    push_cast
    omega
theorem WireCuts : fullerlaw12_WireCuts.Pure := by
  intro l c m hl hc hmm
  have hw := wideG_in hl.2
  have hm : l.length ≤ 9223372036854775806 := by omega
  have hc' : 0 ≤ c ∧ c ≤ 65535 := by
    simp [Lit.wf, IntKind.min, IntKind.max, IntKind.signed, IntKind.bits] at hc
    omega
  have hmo : octs [m] := octs_in (b := [m]) (fun x hx => by obtain rfl := List.mem_singleton.1 hx; exact hmm)
  refine ⟨l.length + 200000, ?_⟩
  unfold fullerlaw12_WireCuts.f
  rw [awake_f _ (by omega), few10_f l hm _ (by omega)]
  simp only [Option.bind_some]
  cases hf : fewG l with
  | false => rw [if_neg (by simp)]
  | true =>
    rw [if_pos rfl, wwrite_f l _ (by omega)]
    simp only [Option.bind_some]
    by_cases hg : gchk l = true
    · have hG := gchk_iff.mp hg
      have h24 := hG.le
      rw [if_pos hg]
      simp only [if_true]
      have hpos : 0 < (encG l).length := by simp [encG]
      have hle := encG_le hG
      rw [show (((encG l).length : Int) == 0) = false from beq_eq_false_iff_ne.mpr (by omega), show l.length + 200000 = (l.length + 199999) + 1 from rfl, fullerlaw12_WireCuts.j0, if_neg (by simp)]
      have := cuts_l0 l hG hw c m hc' hmo (encG l) rfl l.length (l.length + 199999) 0 (by omega) (by omega) (by omega)
      simpa [encNs] using this
    · rw [if_neg hg]
      simp only
      rw [if_neg (by decide), show l.length + 200000 = (l.length + 199999) + 1 from rfl, fullerlaw12_WireCuts.j0, if_pos rfl, if_pos rfl]
      rfl
end Go.Proofs.Ytchmfdaebohplaa.Pure
