/- The shapes of a graph's nodes, in plain words, and that both sides tell them; no conditions. -/
import Derived.Test.YtalmgghhpgfgoaaInfA
import Derived.Test.YtalmgghhpgfgoaaAx9
import Derived.Test.YtalmgghhpgfgoaaAx1
namespace Go.Proofs.Ytalmgghhpgfgoaa.Plain
open Go.RowKit Go.Proofs.Ytalmgghhpgfgoaa.A Go.Proofs.YtalmgghhpgfgoaaW.PrintWords Go.Proofs.YtalmgghhpgfgoaaW.PrintLast Go.Proofs.YtalmgghhpgfgoaaW.PrintMore
set_option linter.unusedVariables false
set_option linter.unusedSimpArgs false

/-- One node's shape behind those that are known. -/
def nodeAt (out : List (List Int)) (n : S25) : List Int × Int := nodeF n.f0 n.f2 (n.f1.map (rd_L1 out))
def shpF : List S25 → List (List Int) → Int → List (List Int) × Int × Int
  | [], out, _ => (out, -1, 0)
  | n :: r, out, i => if (nodeAt out n).2 = 0 then shpF r (out ++ [(nodeAt out n).1]) (i + 1) else ([], i, (nodeAt out n).2)
def shp (l : List S25) : List (List Int) × Int × Int := if gchk l = true then shpF l [] 0 else ([], -1, 100)
theorem join_chk {a b : List Int} (h : (join a b).2 = 0) : chk (join a b).1 = true := by
  unfold join at h ⊢
  split at h
  · rename_i c; rw [if_pos c]; exact (jok_iff.mp c).2.2.2
  · simp at h
theorem told_chk {s : List Int} {b : Bool} (h : (told s b).2 = 0) : chk (told s b).1 = true := by
  unfold told at h ⊢
  split at h
  · rename_i c; rw [if_pos c]; exact c.2
  · simp at h
theorem out_chk {s : List Int} (h : (([], 20) : List Int × Int).2 = 0) : chk (([], 20) : List Int × Int).1 = true := absurd h (by decide)
theorem join_code (a b : List Int) : (join a b).2 = 0 ∨ join a b = ([], 20) := by
  unfold join
  split
  · exact .inl rfl
  · exact .inr rfl
theorem told_code (s : List Int) (b : Bool) : (told s b).2 = 0 ∨ told s b = ([], 20) := by
  unfold told
  split
  · exact .inl rfl
  · exact .inr rfl
/-- What a node's shape is, if it has one, and what is told if it has none. -/
theorem nodeF_chk (op : Int) (nums : List Int) (s : List (List Int)) : ((nodeF op nums s).2 = 0 ∧ chk (nodeF op nums s).1 = true) ∨ nodeF op nums s = ([], 20) := by
  unfold nodeF
  split
  · rename_i hc
    obtain ⟨ha, hn, hs⟩ := hc
    have hk0 : (gkind op).isSome = true := by
      unfold numsW at hn
      cases h : gkind op with
      | none => rw [h] at hn; cases hn
      | some kd => rfl
    have c0 : 0 < s.length → chk (sh0 s) = true := sh0_len hs
    have c1 : 1 < s.length → chk (sh1 s) = true := sh1_len hs
    have J : ∀ a b, ((join a b).2 = 0 ∧ chk (join a b).1 = true) ∨ join a b = ([], 20) := fun a b => by
      rcases join_code a b with h | h
      · exact .inl ⟨h, join_chk h⟩
      · exact .inr h
    have T : ∀ a b, ((told a b).2 = 0 ∧ chk (told a b).1 = true) ∨ told a b = ([], 20) := fun a b => by
      rcases told_code a b with h | h
      · exact .inl ⟨h, told_chk h⟩
      · exact .inr h
    have cut : ∀ op, op = 50 ∨ op = 51 ∨ op = 52 → (s.length : Int) = 1 → nodeS op nums s = (if 0 ≤ rd nums 0 ∧ rd nums 0 < ((sh0 s).length : Int) then ((sh0 s).take (rd nums 0).toNat ++ (sh0 s).drop ((rd nums 0).toNat + 1), 0) else ([], 20)) → ((nodeS op nums s).2 = 0 ∧ chk (nodeS op nums s).1 = true) ∨ nodeS op nums s = ([], 20) := by
      intro op _ h1 e
      rw [e]
      split
      · rename_i c
        exact .inl ⟨rfl, chk_cut (c0 (by omega)) (by omega)⟩
      · exact .inr rfl
    rcases gkind_cases hk0 with rfl | rfl | rfl | rfl | rfl | rfl | rfl | rfl | rfl | rfl | rfl | rfl | rfl | rfl | rfl | rfl | rfl | rfl | rfl
    · exact .inl ⟨rfl, hn⟩
    · refine .inl ⟨rfl, ?_⟩
      have : numsB (-2) nums = true := hn
      unfold numsB at this
      rw [if_pos rfl] at this
      simp only [Bool.and_eq_true] at this
      exact this.2
    · exact .inl ⟨rfl, rfl⟩
    · exact J _ _
    · exact J _ _
    · exact J _ _
    · exact J _ _
    · exact .inl ⟨rfl, c0 (by have : (s.length : Int) = 1 := ha; omega)⟩
    · exact .inl ⟨rfl, c0 (by have : (s.length : Int) = 1 := ha; omega)⟩
    · exact .inl ⟨rfl, c0 (by have : (s.length : Int) = 1 := ha; omega)⟩
    · exact .inl ⟨rfl, c0 (by have : (s.length : Int) = 1 := ha; omega)⟩
    · show ((if (sh0 s).length = 2 ∧ (sh1 s).length = 2 ∧ rd (sh0 s) 1 = rd (sh1 s) 0 then told [rd (sh0 s) 0, rd (sh1 s) 1] true else ([], 20)).2 = 0 ∧ chk (if (sh0 s).length = 2 ∧ (sh1 s).length = 2 ∧ rd (sh0 s) 1 = rd (sh1 s) 0 then told [rd (sh0 s) 0, rd (sh1 s) 1] true else ([], 20)).1 = true) ∨ (if (sh0 s).length = 2 ∧ (sh1 s).length = 2 ∧ rd (sh0 s) 1 = rd (sh1 s) 0 then told [rd (sh0 s) 0, rd (sh1 s) 1] true else ([], 20)) = ([], 20)
      split
      · exact T _ _
      · exact .inr rfl
    · exact T _ _
    · exact .inl ⟨rfl, chk_rev (c0 (by have : (s.length : Int) = 1 := ha; omega))⟩
    · have h1 : (s.length : Int) = 1 := ha
      have e : nodeS 42 nums s = if 0 ≤ rd nums 0 ∧ rd nums 0 < ((sh0 s).length : Int) then (if rd nums 1 < 0 ∨ rd nums 1 ≥ rd nums 2 ∨ rd nums 2 > rd (sh0 s) (rd nums 0) then ([], 20) else ((sh0 s).set (rd nums 0).toNat (rd nums 2 - rd nums 1), 0)) else ([], 20) := rfl
      rw [e]
      split
      · rename_i c
        split
        · exact .inr rfl
        · rename_i q
          refine .inl ⟨rfl, (chk_set (c0 (by omega)) (by omega) (by omega) ?_).1⟩
          rw [show (((rd nums 0).toNat : Nat) : Int) = rd nums 0 by omega]
          omega
      · exact .inr rfl
    · have e : nodeS 43 nums s = if 0 ≤ rd nums 0 ∧ rd nums 0 < ((sh0 s).length : Int) then (if (sh0 s).length = (sh1 s).length ∧ (sh0 s).set (rd nums 0).toNat (rd (sh1 s) (rd nums 0)) = sh1 s then told ((sh0 s).set (rd nums 0).toNat (rd (sh0 s) (rd nums 0) + rd (sh1 s) (rd nums 0))) true else ([], 20)) else ([], 20) := rfl
      rw [e]
      split
      · split
        · exact T _ _
        · exact .inr rfl
      · exact .inr rfl
    · exact cut _ (by decide) ha rfl
    · exact cut _ (by decide) ha rfl
    · exact cut _ (by decide) ha rfl
  · exact .inr rfl
theorem nodeF_len (op : Int) (nums : List Int) (s : List (List Int)) : (nodeF op nums s).1.length ≤ 3 := by
  rcases nodeF_chk op nums s with h | h
  · exact chk_len h.2
  · rw [h]; simp
/-! ### the shapes -/
theorem shpF_all : ∀ (a : List S25) (out : List (List Int)) (i : Int), (∀ s ∈ out, chk s = true) → ∀ s ∈ (shpF a out i).1, chk s = true
  | [], out, i, h => h
  | n :: r, out, i, h => by
    unfold shpF
    split
    · rename_i c
      refine shpF_all r _ _ fun s hs => ?_
      rcases List.mem_append.mp hs with hs | hs
      · exact h s hs
      · rw [List.mem_singleton.mp hs]
        rcases nodeF_chk n.f0 n.f2 (n.f1.map (rd_L1 out)) with g | g
        · exact g.2
        · unfold nodeAt at c; rw [g] at c; exact absurd c (by decide)
    · intro s hs; cases hs
theorem shpF_at : ∀ (a : List S25) (out : List (List Int)) (i : Int), ((shpF a out i).2.2 = 0 ∧ (shpF a out i).2.1 = -1 ∧ (shpF a out i).1.length = out.length + a.length ∧ ∃ t, (shpF a out i).1 = out ++ t) ∨ ((shpF a out i).2.2 = 20 ∧ (shpF a out i).1 = [] ∧ i ≤ (shpF a out i).2.1 ∧ (shpF a out i).2.1 < i + a.length)
  | [], out, i => .inl ⟨rfl, rfl, by simp [shpF], [], by simp [shpF]⟩
  | n :: r, out, i => by
    unfold shpF
    split
    · rcases shpF_at r (out ++ [(nodeAt out n).1]) (i + 1) with ⟨h1, h2, h3, t, h4⟩ | ⟨h1, h2, h3, h4⟩
      · exact .inl ⟨h1, h2, by rw [h3]; simp; omega, [(nodeAt out n).1] ++ t, by rw [h4]; simp⟩
      · exact .inr ⟨h1, h2, by omega, by simp only [List.length_cons]; omega⟩
    · rename_i c
      rcases nodeF_chk n.f0 n.f2 (n.f1.map (rd_L1 out)) with g | g
      · exact absurd g.1 c
      · refine .inr ⟨?_, rfl, by simp, by simp only [List.length_cons]; omega⟩
        show (nodeAt out n).2 = 20
        unfold nodeAt
        rw [g]
theorem shpF_ok : ∀ (a b : List S25) (out : List (List Int)) (i : Int), (shpF a out i).2.2 = 0 → shpF (a ++ b) out i = shpF b (shpF a out i).1 (i + a.length)
  | [], b, out, i, h => by simp [shpF]
  | n :: r, b, out, i, h => by
    by_cases c : (nodeAt out n).2 = 0
    · rw [List.cons_append]
      rw [shpF, if_pos c] at h ⊢
      rw [show shpF (n :: r) out i = shpF r (out ++ [(nodeAt out n).1]) (i + 1) by rw [shpF, if_pos c], shpF_ok r b _ _ h, List.length_cons, show i + 1 + (r.length : Int) = i + ((r.length + 1 : Nat) : Int) by omega]
    · rw [shpF, if_neg c] at h
      exact absurd h c
theorem shpF_bad : ∀ (a b : List S25) (out : List (List Int)) (i : Int), (shpF a out i).2.2 ≠ 0 → shpF (a ++ b) out i = shpF a out i
  | [], b, out, i, h => absurd rfl h
  | n :: r, b, out, i, h => by
    rw [List.cons_append, shpF, shpF]
    by_cases c : (nodeAt out n).2 = 0
    · rw [if_pos c, if_pos c]
      rw [shpF, if_pos c] at h
      exact shpF_bad r b _ _ h
    · rw [if_neg c, if_neg c]
theorem shp_len (l : List S25) : (shp l).1.length ≤ 24 := by
  unfold shp
  split
  · rename_i c
    have := (gchk_iff.mp c).le
    rcases shpF_at l [] 0 with ⟨_, _, h, _⟩ | ⟨_, h, _⟩
    · rw [h]; simpa using this
    · rw [h]; simp
  · simp
theorem shp_all (l : List S25) : ∀ s ∈ (shp l).1, chk s = true := by
  unfold shp
  split
  · exact shpF_all l [] 0 (fun s hs => by cases hs)
  · intro s hs; cases hs
theorem rdL {out : List (List Int)} {i : Nat} (h : i < out.length) : rd_L1 out (i : Int) = out[i] := by simp [rd_L1, h]
/-! ### the program's side -/
theorem shapes_l1 (out : List (List Int)) (x3 x4 x5 x17 : Int) (l : List S25) (x16 op : Int) (ar a nums : List Int) (hr : ∀ q ∈ ar, 0 ≤ q ∧ q < (out.length : Int)) (hal : ar.length ≤ 100) (d : Nat) : ∀ (k j : Nat) (acc : List (List Int)), ar.length - j = d → j ≤ ar.length → acc.length ≤ j →
    infer_Shapes.l1 (k + d + 1) out x3 x4 x5 acc l x16 x17 ar (ar.length : Int) (j : Int) op a nums = infer_Shapes.l1 (k + 1) out x3 x4 x5 (acc ++ (ar.drop j).map (rd_L1 out)) l x16 x17 ar (ar.length : Int) (ar.length : Int) op a nums := by
  induction d with
  | zero =>
    intro k j acc hd hj hacc
    obtain rfl : j = ar.length := by omega
    simp
  | succ d ih =>
    intro k j acc hd hj hacc
    have hjl : j < ar.length := by omega
    have e : wrap64 ((j : Int) + 1) = ((j + 1 : Nat) : Int) := by unfold wrap64; omega
    have hq := hr _ (List.getElem_mem hjl)
    rw [show k + (d + 1) + 1 = (k + d + 1) + 1 by omega, infer_Shapes.l1, if_pos (by omega), if_pos (by omega), if_pos (by omega), rd_lt hjl, if_pos hq.1, if_pos hq.2, if_pos (by omega), e, ih k (j + 1) _ (by omega) (by omega) (by simp; omega), List.drop_eq_getElem_cons hjl, List.map_cons, List.append_assoc]
    rfl
theorem shapes_l0 (l : List S25) (hG : GOk l) (d : Nat) : ∀ (k i : Nat) (out : List (List Int)), l.length - i = d → i ≤ l.length → out.length = i → d * 5 + 60 ≤ k →
    infer_Shapes.l0 k out (-1) 0 l (l.length : Int) (i : Int) = some (shpF (l.drop i) out (i : Int)) := by
  have h24 := hG.le
  induction d with
  | zero =>
    intro k i out hd hi ho hk
    obtain ⟨k, rfl⟩ : ∃ q, k = q + 1 := ⟨k - 1, by omega⟩
    rw [infer_Shapes.l0, if_neg (by omega), List.drop_eq_nil_of_le (by omega)]
    rfl
  | succ d ih =>
    intro k i out hd hi ho hk
    have hil : i < l.length := by omega
    have hn := node_len (hG.node i _ (List.getElem?_eq_getElem hil))
    obtain ⟨kd, _, _, _, hr⟩ := nodeW_iff.mp (hG.node i _ (List.getElem?_eq_getElem hil))
    have e : wrap64 ((i : Int) + 1) = ((i + 1 : Nat) : Int) := by unfold wrap64; omega
    obtain ⟨k, rfl⟩ : ∃ q, k = q + l[i].f1.length + 2 := ⟨k - l[i].f1.length - 2, by omega⟩
    rw [show k + l[i].f1.length + 2 = (k + l[i].f1.length + 1) + 1 by omega, infer_Shapes.l0, if_pos (by omega), if_pos (by omega), if_pos (by omega), rdN hil]
    have key := shapes_l1 out (-1) 0 (i : Int) (i : Int) l (l.length : Int) l[i].f0 l[i].f1 l[i].f1 l[i].f2 (fun q hq => by have := hr q hq; omega) (by omega) l[i].f1.length k 0 [] (by omega) (by omega) (by simp)
    rw [show ((0 : Nat) : Int) = 0 from rfl, List.drop_zero, List.nil_append] at key
    rw [key, infer_Shapes.l1, if_neg (by omega), node_f _ _ _ _ k (by omega)]
    simp only [Option.bind_some]
    rw [List.drop_eq_getElem_cons hil, shpF]
    show (if (nodeAt out l[i]).2 = 0 then _ else _) = _
    by_cases c : (nodeAt out l[i]).2 = 0
    · rw [if_pos c, if_pos c, if_pos (by omega), e, show nodeF l[i].f0 l[i].f2 (l[i].f1.map (rd_L1 out)) = nodeAt out l[i] from rfl, ih k (i + 1) _ (by omega) (by omega) (by simp; omega) (by omega)]
      rfl
    · rw [if_neg c, if_neg c]
      rfl
theorem shapes_f (l : List S25) (k : Nat) (hk : 200 ≤ k) : infer_Shapes.f k l = some (shp l) := by
  unfold infer_Shapes.f shp
  rw [show graph_Check.f l = some (gchk l) from rfl]
  simp only [Option.bind_some]
  by_cases c : gchk l = true
  · have hG := gchk_iff.mp c
    have := hG.le
    rw [if_pos c, if_pos c]
    exact shapes_l0 l hG l.length k 0 [] (by omega) (by omega) rfl (by omega)
  · rw [if_neg c, if_neg c]
/-! ### what else the laws ask -/
def fewG (l : List S25) : Bool := (l.all fun n => decide (n.f1.length ≤ 30) && decide (n.f2.length ≤ 30)) && decide (l.length ≤ 30)
theorem few10_l0 (l : List S25) (hl : l.length ≤ 9223372036854775806) (d : Nat) : ∀ (k i : Nat), l.length - i = d → i ≤ l.length → d + 1 ≤ k →
    fullerref10_Few.l0 k l (i : Int) = some (((l.drop i).all fun n => decide (n.f1.length ≤ 30) && decide (n.f2.length ≤ 30)) && decide (l.length ≤ 30)) := by
  induction d with
  | zero =>
    intro k i hd hi hk
    obtain ⟨k, rfl⟩ : ∃ q, k = q + 1 := ⟨k - 1, by omega⟩
    have e : decide ((l.length : Int) ≤ 30) = decide (l.length ≤ 30) := decide_eq_decide.mpr (by omega)
    rw [fullerref10_Few.l0, if_neg (by omega), List.drop_eq_nil_of_le (by omega), e]
    simp
  | succ d ih =>
    intro k i hd hi hk
    obtain ⟨k, rfl⟩ : ∃ q, k = q + 1 := ⟨k - 1, by omega⟩
    have hil : i < l.length := by omega
    have ih' := ih k (i + 1) (by omega) (by omega) (by omega)
    rw [fullerref10_Few.l0, if_pos (by omega), if_pos (by omega), rdN hil, List.drop_eq_getElem_cons hil, List.all_cons]
    by_cases h1 : ((l[i].f1.length : Int)) > 30
    · rw [if_pos h1, decide_eq_false (show ¬ l[i].f1.length ≤ 30 by omega)]
      simp
    · rw [if_neg h1, decide_eq_true (show l[i].f1.length ≤ 30 by omega)]
      by_cases h2 : ((l[i].f2.length : Int)) > 30
      · rw [if_pos h2, decide_eq_false (show ¬ l[i].f2.length ≤ 30 by omega)]
        simp
      · have e : wrap64 ((i : Int) + 1) = ((i + 1 : Nat) : Int) := by unfold wrap64; omega
        rw [if_neg h2, e, ih', decide_eq_true (show l[i].f2.length ≤ 30 by omega)]
        simp
theorem few10_f (l : List S25) (hl : l.length ≤ 9223372036854775806) (k : Nat) (hk : l.length + 1 ≤ k) : fullerref10_Few.f k l = some (fewG l) := by
  unfold fullerref10_Few.f fewG
  have := few10_l0 l hl l.length k 0 (by omega) (by omega) hk
  simpa using this
def few11 (l : List (List Int)) : Bool := (l.all fun x => decide (x.length ≤ 100)) && decide (l.length ≤ 10)
theorem few11_l0 (l : List (List Int)) (hl : l.length ≤ 9223372036854775806) (d : Nat) : ∀ (k i : Nat), l.length - i = d → i ≤ l.length → d + 1 ≤ k →
    fullerref11_Few.l0 k l (i : Int) = some (((l.drop i).all fun x => decide (x.length ≤ 100)) && decide (l.length ≤ 10)) := by
  induction d with
  | zero =>
    intro k i hd hi hk
    obtain ⟨k, rfl⟩ : ∃ q, k = q + 1 := ⟨k - 1, by omega⟩
    have e : decide ((l.length : Int) ≤ 10) = decide (l.length ≤ 10) := decide_eq_decide.mpr (by omega)
    rw [fullerref11_Few.l0, if_neg (by omega), List.drop_eq_nil_of_le (by omega), e]
    simp
  | succ d ih =>
    intro k i hd hi hk
    obtain ⟨k, rfl⟩ : ∃ q, k = q + 1 := ⟨k - 1, by omega⟩
    have hil : i < l.length := by omega
    have ih' := ih k (i + 1) (by omega) (by omega) (by omega)
    rw [fullerref11_Few.l0, if_pos (by omega), if_pos (by omega), rdL hil, List.drop_eq_getElem_cons hil, List.all_cons]
    by_cases h1 : ((l[i].length : Int)) > 100
    · rw [if_pos h1, decide_eq_false (show ¬ l[i].length ≤ 100 by omega)]
      simp
    · have e : wrap64 ((i : Int) + 1) = ((i + 1 : Nat) : Int) := by unfold wrap64; omega
      rw [if_neg h1, e, ih', decide_eq_true (show l[i].length ≤ 100 by omega)]
      simp
theorem few11_f (l : List (List Int)) (hl : l.length ≤ 9223372036854775806) (k : Nat) (hk : l.length + 1 ≤ k) : fullerref11_Few.f k l = some (few11 l) := by
  unfold fullerref11_Few.f few11
  have := few11_l0 l hl l.length k 0 (by omega) (by omega) hk
  simpa using this
theorem same11_l0 (a b : List (List Int)) (hl : a.length = b.length) (hm : a.length ≤ 1000) (hs : ∀ s ∈ a, s.length ≤ 10) (d : Nat) : ∀ (k i : Nat), a.length - i = d → i ≤ a.length → d + 20 ≤ k →
    fullerref11_Same.l0 k a b (i : Int) = some (decide (a.drop i = b.drop i)) := by
  induction d with
  | zero =>
    intro k i hd hi hk
    obtain ⟨k, rfl⟩ : ∃ q, k = q + 1 := ⟨k - 1, by omega⟩
    rw [fullerref11_Same.l0, if_neg (by omega), List.drop_eq_nil_of_le (by omega), List.drop_eq_nil_of_le (by omega)]
    rfl
  | succ d ih =>
    intro k i hd hi hk
    obtain ⟨k, rfl⟩ : ∃ q, k = q + 1 := ⟨k - 1, by omega⟩
    have hil : i < a.length := by omega
    have hil' : i < b.length := by omega
    have hsl := hs _ (List.getElem_mem hil)
    have ih' := ih k (i + 1) (by omega) (by omega) (by omega)
    have e : wrap64 ((i : Int) + 1) = ((i + 1 : Nat) : Int) := by unfold wrap64; omega
    rw [fullerref11_Same.l0, if_pos (by omega), if_pos (by omega), if_pos (by omega), rdL hil, rdL hil', same_f _ _ (by omega) _ (by omega)]
    simp only [Option.bind_some]
    rw [List.drop_eq_getElem_cons hil, List.drop_eq_getElem_cons hil']
    by_cases c : a[i] = b[i]
    · rw [if_pos (decide_eq_true c), e, ih']
      exact congrArg some (decide_eq_decide.mpr ⟨fun h => by rw [h, c], fun h => (List.cons.inj h).2⟩)
    · rw [if_neg (by simpa using c), decide_eq_false (fun h => c (List.cons.inj h).1)]
theorem same11_f (a b : List (List Int)) (hm : a.length ≤ 1000) (hs : ∀ s ∈ a, s.length ≤ 10) (k : Nat) (hk : a.length + 20 ≤ k) : fullerref11_Same.f k a b = some (decide (a = b)) := by
  unfold fullerref11_Same.f
  by_cases h : a.length = b.length
  · rw [if_pos (by omega)]
    have := same11_l0 a b h hm hs a.length k 0 (by omega) (by omega) hk
    simpa using this
  · rw [if_neg (by omega), decide_eq_false (fun e => h (by rw [e]))]
end Go.Proofs.Ytalmgghhpgfgoaa.Plain
