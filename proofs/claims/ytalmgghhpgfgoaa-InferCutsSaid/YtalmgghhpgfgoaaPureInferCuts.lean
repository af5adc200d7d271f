/- For all graphs InferCuts answers true; no conditions but the sizes that the statement names. -/
import Derived.Test.YtalmgghhpgfgoaaAx20
import Derived.Test.YtalmgghhpgfgoaaInfAwake
import Derived.Test.YtalmgghhpgfgoaaInfS
namespace Go.Proofs.Ytalmgghhpgfgoaa.Pure
open Go.RowKit Go.Proofs.Ytalmgghhpgfgoaa.A Go.Proofs.YtalmgghhpgfgoaaW.PrintWords Go.Proofs.YtalmgghhpgfgoaaW.PrintLast Go.Proofs.YtalmgghhpgfgoaaW.PrintMore Go.Proofs.Ytalmgghhpgfgoaa.Plain
set_option linter.unusedVariables false
set_option linter.unusedSimpArgs false

theorem cuts_l0 (x6 x11 : List (List Int)) (x8 : Int) (n : Nat) (hn : x11.length = n) (hall : ∀ s ∈ x11, chk s = true) (g3 : x8 = 0 → ∃ t, x6 = x11 ++ t) (hb : n ≤ 1000) : ∀ (d i q : Nat), n - i = d → i ≤ n → d + 40 ≤ q → fullerlaw11_InferCuts.l0 q true x6 x8 (n : Int) x11 (i : Int) = some true := by
  intro d
  induction d with
  | zero =>
    intro i q hd hi hq
    obtain ⟨q, rfl⟩ : ∃ z, q = z + 1 := ⟨q - 1, by omega⟩
    rw [fullerlaw11_InferCuts.l0, if_neg (by omega)]
  | succ d ih =>
    intro i q hd hi hq
    obtain ⟨q, rfl⟩ : ∃ z, q = z + 1 := ⟨q - 1, by omega⟩
    have hin : i < x11.length := by omega
    have hck := hall _ (List.getElem_mem hin)
    have hle := chk_len hck
    rw [fullerlaw11_InferCuts.l0, if_pos (by omega), if_pos (by omega), if_pos (by omega), rdL hin, check_f _ _ (by omega)]
    simp only [Option.bind_some]
    rw [if_pos hck]
    have e : wrap64 ((i : Int) + 1) = ((i + 1 : Nat) : Int) := by unfold wrap64; omega
    rw [e, ih (i + 1) q (by omega) (by omega) (by omega)]
    by_cases h0 : x8 = 0
    · obtain ⟨t, ht⟩ := g3 h0
      rw [if_pos h0]
      have hin2 : i < x6.length := by rw [ht, List.length_append]; omega
      rw [if_pos (by omega), rdL hin2]
      have es : x6[i] = x11[i] := by
        have : x6[i]? = x11[i]? := by rw [ht, List.getElem?_append_left hin]
        rw [List.getElem?_eq_getElem hin2, List.getElem?_eq_getElem hin] at this
        exact Option.some.inj this
      rw [es, same_f _ _ (by omega) _ (by omega)]
      simp
    · rw [if_neg h0]
theorem InferCuts : fullerlaw11_InferCuts.Pure := by
  intro l c hl hc
  have hm : l.length ≤ 9223372036854775806 := by omega
  have hc' : 0 ≤ c ∧ c ≤ 255 := by
    simp [Lit.wf, IntKind.min, IntKind.max, IntKind.signed, IntKind.bits] at hc
    omega
  refine ⟨l.length + 1000, ?_⟩
  unfold fullerlaw11_InferCuts.f
  rw [awake_f _ (by omega), few10_f l hm _ (by omega)]
  simp only [Option.bind_some]
  obtain ⟨k, hk⟩ : ∃ q, l.length + 1000 = q + 4 := ⟨l.length + 996, rfl⟩
  have out : fullerlaw11_InferCuts.j0 (l.length + 1000) l c true true = some true := by
    rw [hk, fullerlaw11_InferCuts.j0, if_pos rfl]
  cases hf : fewG l with
  | false => rw [if_neg (by decide)]; exact out
  | true =>
    rw [if_pos rfl, show graph_Check.f l = some (gchk l) from rfl]
    simp only [Option.bind_some]
    cases hg : gchk l with
    | false => exact out
    | true =>
      have hG := gchk_iff.mp hg
      have h24 := hG.le
      have hpos := hG.pos
      have e0 : shp l = shpF l [] 0 := by unfold shp; rw [if_pos hg]
      have rest : ∀ n9 : Int, 0 < n9 → n9 ≤ (l.length : Int) → ((shp l).2.2 = 0 ∨ n9 = (shp l).2.1) →
          fullerlaw11_InferCuts.j1 (k + 3) l c true (shp l).1 (shp l).2.1 (shp l).2.2 n9 = some true := by
        intro n9 h1 h2 h3
        have hq : (n9 == 0) = false := beq_eq_false_iff_ne.mpr (by omega)
        rw [fullerlaw11_InferCuts.j1, if_neg (by omega), if_neg (by omega), hq, fullerlaw11_InferCuts.j2, if_neg (by decide), if_neg (by omega)]
        have hmod := Int.tmod_nonneg n9 hc'.1
        have hmod2 := Int.tmod_lt_of_pos c h1
        rw [w64 (x := c) (by omega) (by omega)]
        generalize hgm : Int.tmod c n9 = m at hmod hmod2
        rw [w64 (by omega) (by omega), if_pos (by omega), if_pos (by omega)]
        obtain ⟨n, hn⟩ : ∃ n : Nat, 1 + m = (n : Int) := ⟨(1 + m).toNat, by omega⟩
        rw [hn, Int.toNat_natCast, shapes_f _ _ (by omega)]
        simp only [Option.bind_some]
        have hGn : GOk (l.take n) := ⟨by simp; omega, by simp; omega, fun j x hx => hG.node j x (by
          rw [List.getElem?_take] at hx
          split at hx
          · exact hx
          · cases hx), fun x hx y hy => hG.like x (List.mem_of_mem_take hx) y (List.mem_of_mem_take hy)⟩
        have e1 : shp (l.take n) = shpF (l.take n) [] 0 := by unfold shp; rw [if_pos (gchk_iff.mpr hGn)]
        have split : l.take n ++ l.drop n = l := List.take_append_drop n l
        have hlen : (l.take n).length = n := by simp; omega
        have a1 := shpF_at (l.take n) [] 0
        have good : (shpF (l.take n) [] 0).2.2 = 0 := by
          rcases a1 with h | ⟨b1, b2, b3, b4⟩
          · exact h.1
          · exfalso
            have := shpF_bad (l.take n) (l.drop n) [] 0 (by rw [b1]; decide)
            rw [split, ← e0] at this
            rcases h3 with h3 | h3
            · rw [this, b1] at h3; exact absurd h3 (by decide)
            · rw [this] at h3; omega
        have hall := shp_all (l.take n)
        rw [e1] at hall ⊢
        obtain ⟨g1, g2, g3⟩ : (shpF (l.take n) [] 0).2.1 = -1 ∧ (shpF (l.take n) [] 0).1.length = n ∧ ((shp l).2.2 = 0 → ∃ t, (shp l).1 = (shpF (l.take n) [] 0).1 ++ t) := by
          rcases a1 with ⟨b1, b2, b3, b4⟩ | ⟨b1, _⟩
          · refine ⟨b2, by rw [b3, hlen]; simp, fun h0 => ?_⟩
            have := shpF_ok (l.take n) (l.drop n) [] 0 good
            rw [split, ← e0] at this
            rcases shpF_at (l.drop n) (shpF (l.take n) [] 0).1 (0 + ((l.take n).length : Int)) with ⟨_, _, _, h⟩ | ⟨h, _⟩
            · rw [this]; exact h
            · rw [this, h] at h0; exact absurd h0 (by decide)
          · rw [good] at b1; exact absurd b1 (by decide)
        have fin : ∀ b, b = false → fullerlaw11_InferCuts.j3 (k + 1) true (shp l).1 (shp l).2.2 (n : Int) (shpF (l.take n) [] 0).1 b = some true := by
          intro b hb
          subst hb
          rw [fullerlaw11_InferCuts.j3, if_neg (by decide)]
          exact cuts_l0 (shp l).1 (shpF (l.take n) [] 0).1 (shp l).2.2 n g2 hall g3 (by omega) n 0 k (by omega) (by omega) (by omega)
        rw [if_pos good, if_pos (by omega)]
        by_cases h0 : (shp l).2.2 = 0
        · rw [if_pos h0]
          refine fin _ ?_
          have : (shp l).1.length = l.length := by
            rcases shpF_at l [] 0 with ⟨_, _, b3, _⟩ | ⟨b1, _⟩
            · rw [e0, b3]; simp
            · rw [e0, b1] at h0; exact absurd h0 (by decide)
          simp [this]
        · rw [if_neg h0]
          exact fin _ rfl
      rw [hk]
      show fullerlaw11_InferCuts.j0 (k + 4) l c true false = some true
      rw [fullerlaw11_InferCuts.j0, if_neg (by decide), shapes_f l _ (by omega)]
      simp only [Option.bind_some]
      by_cases h0 : (shp l).2.2 = 0
      · rw [if_pos h0]
        exact rest _ (by omega) (by omega) (.inl h0)
      · rw [if_neg h0]
        obtain ⟨b1, b3, b4⟩ : (shp l).2.2 = 20 ∧ 0 ≤ (shp l).2.1 ∧ (shp l).2.1 < (l.length : Int) := by
          rcases shpF_at l [] 0 with ⟨b1, _⟩ | ⟨b1, _, b3, b4⟩
          · rw [e0, b1] at h0; exact absurd rfl h0
          · rw [e0]; exact ⟨b1, b3, by omega⟩
        by_cases h1 : (shp l).2.1 = 0
        · rw [h1, fullerlaw11_InferCuts.j1, if_neg (by omega), if_neg (by omega), show ((0 : Int) == 0) = true from rfl, fullerlaw11_InferCuts.j2, if_pos rfl, if_pos rfl, if_pos b1]
          rfl
        · exact rest _ (by omega) (by omega) (.inr rfl)
end Go.Proofs.Ytalmgghhpgfgoaa.Pure
