/- For all shapes and numbers InferTurns answers true; no conditions but the sizes that the statement names. -/
import Derived.Test.YtalmgghhpgfgoaaAx21
import Derived.Test.YtalmgghhpgfgoaaAx10
import Derived.Test.YtalmgghhpgfgoaaInfS
namespace Go.Proofs.Ytalmgghhpgfgoaa.Pure
open Go.RowKit Go.Proofs.Ytalmgghhpgfgoaa.A Go.Proofs.YtalmgghhpgfgoaaW.PrintWords Go.Proofs.YtalmgghhpgfgoaaW.PrintLast Go.Proofs.YtalmgghhpgfgoaaW.PrintMore Go.Proofs.Ytalmgghhpgfgoaa.Plain
set_option linter.unusedVariables false
set_option linter.unusedSimpArgs false
theorem awake_f (k : Nat) (hk : 300 ≤ k) : fullerlaw11_awake.f k = some true := at_rounds fullerlaw11_awake.mono hk (by decide +kernel)

theorem join_comm (a b : List Int) : join a b = join b a := by
  unfold join
  rw [jok_comm, jl_comm]
theorem both_comm {op : Int} (ho : op = 10 ∨ op = 11 ∨ op = 12 ∨ op = 13) (x y : List Int) : nodeF op [] [x, y] = nodeF op [] [y, x] := by
  have e : ∀ a b : List Int, nodeF op [] [a, b] = if (chk a && chk b) = true then join a b else ([], 20) := by
    intro a b
    unfold nodeF
    have h1 : arity op = 2 := by rcases ho with rfl | rfl | rfl | rfl <;> rfl
    have h2 : numsW op [] = true := by rcases ho with rfl | rfl | rfl | rfl <;> rfl
    have h3 : nodeS op [] [a, b] = join a b := by rcases ho with rfl | rfl | rfl | rfl <;> rfl
    rw [h1, h2, h3]
    cases h' : chk a <;> cases h : chk b <;> simp [h, h']
  rw [e, e, join_comm, Bool.and_comm]
theorem one_node {op : Int} {nums : List Int} {x : List Int} (ha : arity op = 1) (hn : numsW op nums = true) : nodeF op nums [x] = if chk x = true then nodeS op nums [x] else ([], 20) := by
  unfold nodeF
  rw [ha]
  cases hc : chk x <;> simp [hn, hc]
theorem turn_node (x : List Int) : nodeF 41 [] [x] = if chk x = true then (x.reverse, 0) else ([], 20) := one_node rfl rfl
theorem neg_node (x : List Int) : nodeF 20 [] [x] = if chk x = true then (x, 0) else ([], 20) := one_node rfl rfl
theorem InferTurns : fullerlaw11_InferTurns.Pure := by
  intro x y c hx hy hc
  have hc' : 0 ≤ c ∧ c ≤ 255 := by
    simp [Lit.wf, IntKind.min, IntKind.max, IntKind.signed, IntKind.bits] at hc
    omega
  refine ⟨1000, ?_⟩
  unfold fullerlaw11_InferTurns.f
  rw [awake_f _ (by omega)]
  simp only [Option.bind_some]
  have out : fullerlaw11_InferTurns.j0 1000 x y c true true = some true := by
    rw [show 1000 = 999 + 1 from rfl, fullerlaw11_InferTurns.j0, if_pos rfl]
  have main : fullerlaw11_InferTurns.j0 1000 x y c true false = some true := by
    obtain ⟨op, e, ho⟩ : ∃ op, wrap64 (10 + wrap64 (Int.tmod c 4)) = op ∧ (op = 10 ∨ op = 11 ∨ op = 12 ∨ op = 13) := by
      have m0 := Int.tmod_nonneg 4 hc'.1
      have m1 := Int.tmod_lt_of_pos c (show (0 : Int) < 4 by omega)
      refine ⟨_, rfl, ?_⟩
      generalize Int.tmod c 4 = m at m0 m1 ⊢
      rw [w64 (x := m) (by omega) (by omega), w64 (by omega) (by omega)]
      omega
    rw [show 1000 = 999 + 1 from rfl, fullerlaw11_InferTurns.j0, if_neg (by decide), e]
    simp only [node_f _ _ _ _ 999 (by omega), check_f _ 999 (by omega), Option.bind_some, if_true]
    rw [both_comm ho y x]
    have hl := nodeF_len op [] [x, y]
    rw [same_f _ _ (by omega) _ (by omega)]
    simp only [Option.bind_some, decide_true, if_true]
    cases hk : chk x with
    | false =>
      rw [turn_node, neg_node, hk]
      simp
    | true =>
      have h3 := chk_len hk
      have hr := chk_rev hk
      rw [turn_node, neg_node, hk]
      simp only [if_true]
      rw [turn_node, hr]
      simp only [if_true, List.reverse_reverse]
      rw [same_f _ _ (by omega) _ (by omega)]
      simp
  by_cases h1 : (x.length : Int) > 100
  · rw [if_pos h1]; exact out
  · rw [if_neg h1]
    by_cases h2 : (y.length : Int) > 100
    · rw [decide_eq_true h2]; exact out
    · rw [decide_eq_false h2]; exact main
end Go.Proofs.Ytalmgghhpgfgoaa.Pure
