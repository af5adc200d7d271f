/- For all graphs, nodes and shapes InferTells answers true; no conditions but the sizes that the statement names. -/
import Derived.Test.YtalmgghhpgfgoaaAx19
import Derived.Test.YtalmgghhpgfgoaaAx10
import Derived.Test.YtalmgghhpgfgoaaInfS
import Derived.Test.YtalmgghhpgfgoaaInfR
import Derived.Test.YtalmgghhpgfgoaaAx18
namespace Go.Proofs.Ytalmgghhpgfgoaa.Pure
open Go.RowKit Go.Proofs.Ytalmgghhpgfgoaa.A Go.Proofs.YtalmgghhpgfgoaaW.PrintWords Go.Proofs.YtalmgghhpgfgoaaW.PrintLast Go.Proofs.YtalmgghhpgfgoaaW.PrintMore Go.Proofs.Ytalmgghhpgfgoaa.Plain
set_option linter.unusedVariables false
set_option linter.unusedSimpArgs false
theorem awake_f (k : Nat) (hk : 300 ≤ k) : fullerlaw11_awake.f k = some true := at_rounds fullerlaw11_awake.mono hk (by decide +kernel)
theorem rshapes_l1 (out : List (List Int)) (l : List S25) (i : Nat) (hil : i < l.length) (hr : ∀ q ∈ l[i].f1, 0 ≤ q ∧ q < (out.length : Int)) (hal : l[i].f1.length ≤ 100) (d : Nat) : ∀ (k j : Nat) (acc : List (List Int)), l[i].f1.length - j = d → j ≤ l[i].f1.length → acc.length ≤ j →
    fullerref11_Shapes.l1 (k + d + 1) l out (i : Int) acc (j : Int) = fullerref11_Shapes.l1 (k + 1) l out (i : Int) (acc ++ (l[i].f1.drop j).map (rd_L1 out)) (l[i].f1.length : Int) := by
  induction d with
  | zero =>
    intro k j acc hd hj hacc
    obtain rfl : j = l[i].f1.length := by omega
    simp
  | succ d ih =>
    intro k j acc hd hj hacc
    have hjl : j < l[i].f1.length := by omega
    have e : wrap64 ((j : Int) + 1) = ((j + 1 : Nat) : Int) := by unfold wrap64; omega
    have hq := hr _ (List.getElem_mem hjl)
    rw [show k + (d + 1) + 1 = (k + d + 1) + 1 by omega, fullerref11_Shapes.l1, if_pos (by omega), if_pos (by omega), rdN hil, if_pos (by omega), if_pos (by omega), rd_lt hjl, if_pos hq.1, if_pos hq.2, if_pos (by omega), e, ih k (j + 1) _ (by omega) (by omega) (by simp; omega), List.drop_eq_getElem_cons hjl, List.map_cons, List.append_assoc]
    rfl
theorem rshapes_l0 (l : List S25) (hG : GOk l) (d : Nat) : ∀ (k i : Nat) (out : List (List Int)), l.length - i = d → i ≤ l.length → out.length = i → d * 5 + 3500 ≤ k →
    fullerref11_Shapes.l0 k l out (i : Int) = some (shpF (l.drop i) out (i : Int)) := by
  have h24 := hG.le
  induction d with
  | zero =>
    intro k i out hd hi ho hk
    obtain ⟨k, rfl⟩ : ∃ q, k = q + 1 := ⟨k - 1, by omega⟩
    rw [fullerref11_Shapes.l0, if_neg (by omega), List.drop_eq_nil_of_le (by omega)]
    rfl
  | succ d ih =>
    intro k i out hd hi ho hk
    have hil : i < l.length := by omega
    have hn := node_len (hG.node i _ (List.getElem?_eq_getElem hil))
    obtain ⟨kd, _, _, _, hr⟩ := nodeW_iff.mp (hG.node i _ (List.getElem?_eq_getElem hil))
    have e : wrap64 ((i : Int) + 1) = ((i + 1 : Nat) : Int) := by unfold wrap64; omega
    obtain ⟨k, rfl⟩ : ∃ q, k = q + l[i].f1.length + 2 := ⟨k - l[i].f1.length - 2, by omega⟩
    rw [show k + l[i].f1.length + 2 = (k + l[i].f1.length + 1) + 1 by omega, fullerref11_Shapes.l0, if_pos (by omega)]
    have key := rshapes_l1 out l i hil (fun q hq => by have := hr q hq; omega) (by omega) l[i].f1.length k 0 [] (by omega) (by omega) (by simp)
    rw [show ((0 : Nat) : Int) = 0 from rfl, List.drop_zero, List.nil_append] at key
    rw [key, fullerref11_Shapes.l1, if_pos (by omega), if_pos (by omega), rdN hil, if_neg (by omega), rnode_f _ _ _ _ k (by omega)]
    simp only [Option.bind_some]
    rw [List.drop_eq_getElem_cons hil, shpF]
    show (if (nodeAt out l[i]).2 = 0 then _ else _) = _
    by_cases c : (nodeAt out l[i]).2 = 0
    · rw [if_pos c, if_pos c, if_pos (by omega), e, show nodeF l[i].f0 l[i].f2 (l[i].f1.map (rd_L1 out)) = nodeAt out l[i] from rfl, ih k (i + 1) _ (by omega) (by omega) (by simp; omega) (by omega)]
      rfl
    · rw [if_neg c, if_neg c]
      rfl
theorem rshapes_f (l : List S25) (k : Nat) (hk : 3700 ≤ k) : fullerref11_Shapes.f k l = some (shp l) := by
  unfold fullerref11_Shapes.f shp
  rw [rgchk_f l k (by omega)]
  simp only [Option.bind_some]
  by_cases c : gchk l = true
  · have hG := gchk_iff.mp c
    have := hG.le
    rw [if_pos c, if_pos c]
    exact rshapes_l0 l hG l.length k 0 [] (by omega) (by omega) rfl (by omega)
  · rw [if_neg c, if_neg c]
theorem InferTells : fullerlaw11_InferTells.Pure := by
  intro l op a nums s hl _ _ _ hs
  have hm : l.length ≤ 9223372036854775806 := by omega
  refine ⟨l.length + s.length + 5000, ?_⟩
  unfold fullerlaw11_InferTells.f
  rw [awake_f _ (by omega), few10_f l hm _ (by omega)]
  simp only [Option.bind_some]
  obtain ⟨k, hk⟩ : ∃ q, l.length + s.length + 5000 = q + 1 := ⟨l.length + s.length + 4999, rfl⟩
  have out : fullerlaw11_InferTells.j0 (l.length + s.length + 5000) l s true true op a nums = some true := by
    rw [hk, fullerlaw11_InferTells.j0, if_pos rfl]
  cases hf : fewG l with
  | false => rw [if_neg (by decide)]; exact out
  | true =>
    rw [if_pos rfl]
    by_cases h1 : (a.length : Int) > 30
    · rw [if_pos h1]; exact out
    · rw [if_neg h1]
      by_cases h2 : (nums.length : Int) > 30
      · rw [if_pos h2]; exact out
      · rw [if_neg h2, few11_f s (by omega) _ (by omega)]
        simp only [Option.bind_some]
        cases hc : few11 s with
        | false => exact out
        | true =>
          have s1 := shp_len l
          have s2 := shp_all l
          have s3 := nodeF_len op nums s
          rw [hk, fullerlaw11_InferTells.j0, if_neg (by decide), node_f op a nums s _ (by omega), rnode_f op a nums s _ (by omega), shapes_f l _ (by omega), rshapes_f l _ (by omega)]
          simp only [Option.bind_some, if_true]
          rw [same_f _ _ (by omega) _ (by omega)]
          simp only [Option.bind_some, decide_true, if_true]
          rw [same11_f _ _ (by omega) (fun x hx => by have := chk_len (s2 x hx); omega) _ (by omega)]
          simp
end Go.Proofs.Ytalmgghhpgfgoaa.Pure
