/- What the functions of layer 11 answer, in plain words; no conditions. -/
import Derived.Test.YtalmgghhpgfgoaaGraphA
import Derived.Test.YtalmgghhpgfgoaaAx8
namespace Go.Proofs.Ytalmgghhpgfgoaa.Plain
open Go.RowKit Go.Proofs.Ytalmgghhpgfgoaa.A Go.Proofs.YtalmgghhpgfgoaaW.PrintWords Go.Proofs.YtalmgghhpgfgoaaW.PrintLast Go.Proofs.YtalmgghhpgfgoaaW.PrintMore
set_option linter.unusedVariables false
set_option linter.unusedSimpArgs false

def arity (op : Int) : Int := match gkind op with
  | none => -1
  | some kd => kd.1
theorem arit_eq (op : Int) : aritV op = arity op := by
  unfold aritV arity
  cases gkind op <;> rfl
def sh0 (s : List (List Int)) : List Int := rd_L1 s 0
def sh1 (s : List (List Int)) : List Int := rd_L1 s 1
def told (s : List Int) (b : Bool) : List Int × Int := if b = true ∧ chk s = true then (s, 0) else ([], 20)
/-- A node's shape, where its numbers, and its shapes, may be. -/
def nodeS (op : Int) (nums : List Int) (s : List (List Int)) : List Int × Int :=
  if op = 1 then (nums, 0) else if op = 2 then (nums.drop 1, 0) else if op = 3 then ([], 0)
  else if op = 10 ∨ op = 11 ∨ op = 12 ∨ op = 13 then join (sh0 s) (sh1 s)
  else if op = 20 ∨ op = 21 ∨ op = 22 ∨ op = 23 then (sh0 s, 0)
  else if op = 40 then told nums (decide (siz nums = siz (sh0 s)))
  else if op = 41 then ((sh0 s).reverse, 0)
  else if op = 30 then (if (sh0 s).length = 2 ∧ (sh1 s).length = 2 ∧ rd (sh0 s) 1 = rd (sh1 s) 0 then told [rd (sh0 s) 0, rd (sh1 s) 1] true else ([], 20))
  else if 0 ≤ rd nums 0 ∧ rd nums 0 < ((sh0 s).length : Int) then
    (if op = 42 then (if rd nums 1 < 0 ∨ rd nums 1 ≥ rd nums 2 ∨ rd nums 2 > rd (sh0 s) (rd nums 0) then ([], 20) else ((sh0 s).set (rd nums 0).toNat (rd nums 2 - rd nums 1), 0))
     else if op = 43 then (if (sh0 s).length = (sh1 s).length ∧ (sh0 s).set (rd nums 0).toNat (rd (sh1 s) (rd nums 0)) = sh1 s then told ((sh0 s).set (rd nums 0).toNat (rd (sh0 s) (rd nums 0) + rd (sh1 s) (rd nums 0))) true else ([], 20))
     else ((sh0 s).take (rd nums 0).toNat ++ (sh0 s).drop ((rd nums 0).toNat + 1), 0))
  else ([], 20)
def numsW (op : Int) (nums : List Int) : Bool := match gkind op with
  | none => false
  | some kd => numsB kd.2 nums
def nodeF (op : Int) (nums : List Int) (s : List (List Int)) : List Int × Int :=
  if (s.length : Int) = arity op ∧ numsW op nums = true ∧ (s.all chk) = true then nodeS op nums s else ([], 20)
theorem clone_f {l : List Int} (h : l.length < 17592186044416) : slices_Clone_int_int.f l = some l := by
  unfold slices_Clone_int_int.f
  simp [h]
theorem wrongS_eq (s : List Int) : wrongS s = !chk s := by
  unfold wrongS infer_Node_1.f
  rw [check_f s 8 (by omega)]
  rfl
theorem wrong_any (s : List (List Int)) : s.any wrongS = !(s.all chk) := by
  induction s with
  | nil => rfl
  | cons x s ih => simp only [List.any_cons, List.all_cons, ih, wrongS_eq]; cases chk x <;> rfl
theorem ndG_chk (op : Int) (m : Nat) (nums : List Int) (hm : (m : Int) = mx 0 (arity op)) : gchk (ndG op m nums) = numsW op nums := by
  have key : gchk (ndG op m nums) = true ↔ numsW op nums = true := by
    rw [gchk_iff]
    constructor
    · intro h
      have := h.node 1 ⟨op, List.replicate m 0, nums⟩ rfl
      obtain ⟨kd, h1, h2, h3, h4⟩ := nodeW_iff.mp this
      unfold numsW
      rw [h1]
      exact h3
    · intro h
      unfold numsW at h
      cases hk : gkind op with
      | none => rw [hk] at h; cases h
      | some kd =>
        rw [hk] at h
        have hr := kind_rng hk
        have ha : arity op = kd.1 := by unfold arity; rw [hk]
        rw [ha] at hm
        have hm' : (m : Int) = kd.1 := by rw [hm]; unfold mx; split <;> omega
        refine ⟨by simp [ndG], by simp [ndG], fun j n hn => ?_, ?_⟩
        · match j, hn with
          | 0, hn =>
            simp [ndG] at hn
            subst hn
            exact nodeW_iff.mpr ⟨(0, 1), rfl, rfl, rfl, fun a ha => by simp at ha⟩
          | 1, hn =>
            simp [ndG] at hn
            subst hn
            refine nodeW_iff.mpr ⟨kd, hk, by simp; exact hm', h, fun a ha => ?_⟩
            have := (List.mem_replicate.mp ha).2
            subst this
            simp
          | j + 2, hn => simp [ndG] at hn
        · intro n hn n' hn' a h1 h2
          simp only [ndG, List.mem_cons, List.not_mem_nil, or_false] at hn hn'
          rcases hn with rfl | rfl <;> rcases hn' with rfl | rfl
          · rfl
          · simp [gkey] at h1
          · simp [gkey] at h2
          · rfl
  rw [Bool.eq_iff_iff]
  exact key
theorem sh0_len {s : List (List Int)} (h : s.all chk = true) (hl : 0 < s.length) : chk (sh0 s) = true := by
  cases s with
  | nil => simp at hl
  | cons x s => simp at h; exact h.1
theorem sh1_len {s : List (List Int)} (h : s.all chk = true) (hl : 1 < s.length) : chk (sh1 s) = true := by
  match s, hl with
  | x :: y :: s, _ => simp at h; exact h.2.1
theorem rdk {l : List Int} {i : Nat} (h : i < l.length) : rd l (i : Int) ∈ l := by rw [rd_lt h]; exact List.getElem_mem h
/-- Not above a side, and not none: a lesser side may stand for one. -/
theorem set_at {s : List Int} {i : Nat} (h : i < s.length) (v : Int) : s.set i v = s.take i ++ v :: s.drop (i + 1) := by
  rw [List.set_eq_take_append_cons_drop, if_pos h]
theorem prod_set {s : List Int} {i : Nat} (h : i < s.length) (v : Int) : prod (s.set i v) = prod (s.take i) * (v * prod (s.drop (i + 1))) := by
  rw [set_at h, prod_append]
  rfl
theorem self_set {s : List Int} {i : Nat} (h : i < s.length) : s.set i (rd s (i : Int)) = s := by
  rw [rd_lt h]
  simp
theorem chk_set {s : List Int} (hc : chk s = true) {i : Nat} (h : i < s.length) {v : Int} (h1 : 1 ≤ v) (h2 : v ≤ rd s (i : Int)) : chk (s.set i v) = true ∧ prod (s.set i v) ≤ prod s := by
  obtain ⟨c1, c2, c3⟩ := chk_iff.mp hc
  have hs := c2 _ (rdk h)
  have p1 := prod_pos (s := s.take i) fun x hx => (c2 x (List.mem_of_mem_take hx)).1
  have p2 := prod_pos (s := s.drop (i + 1)) fun x hx => (c2 x (List.mem_of_mem_drop hx)).1
  have e : prod s = prod (s.take i) * (rd s (i : Int) * prod (s.drop (i + 1))) := by
    conv => lhs; rw [← self_set h]
    exact prod_set h _
  have hle : prod (s.set i v) ≤ prod s := by
    rw [prod_set h, e]
    exact Int.mul_le_mul_of_nonneg_left (Int.mul_le_mul_of_nonneg_right h2 (by omega)) (by omega)
  refine ⟨chk_iff.mpr ⟨by simpa using c1, fun x hx => ?_, by omega⟩, hle⟩
  rcases List.mem_or_eq_of_mem_set hx with h3 | h3
  · exact c2 x h3
  · subst h3; omega
theorem chk_cut {s : List Int} (hc : chk s = true) {i : Nat} (h : i < s.length) : chk (s.take i ++ s.drop (i + 1)) = true := by
  obtain ⟨c1, c2, c3⟩ := chk_iff.mp hc
  have hs := c2 _ (rdk h)
  have p1 := prod_pos (s := s.take i) fun x hx => (c2 x (List.mem_of_mem_take hx)).1
  have p2 := prod_pos (s := s.drop (i + 1)) fun x hx => (c2 x (List.mem_of_mem_drop hx)).1
  have e : prod s = prod (s.take i) * (rd s (i : Int) * prod (s.drop (i + 1))) := by
    conv => lhs; rw [← self_set h]
    exact prod_set h _
  refine chk_iff.mpr ⟨by simp; omega, fun x hx => ?_, ?_⟩
  · rcases List.mem_append.mp hx with h3 | h3
    · exact c2 x (List.mem_of_mem_take h3)
    · exact c2 x (List.mem_of_mem_drop h3)
  · rw [prod_append]
    have : prod (s.drop (i + 1)) ≤ rd s (i : Int) * prod (s.drop (i + 1)) := by
      have := Int.mul_le_mul_of_nonneg_right hs.1 (show 0 ≤ prod (s.drop (i + 1)) by omega)
      omega
    have := Int.mul_le_mul_of_nonneg_left this (show 0 ≤ prod (s.take i) by omega)
    omega
theorem chk_nil : chk [] = true := rfl
theorem chk_rev {s : List Int} (h : chk s = true) : chk s.reverse = true := by
  obtain ⟨c1, c2, c3⟩ := chk_iff.mp h
  exact chk_iff.mpr ⟨by simpa using c1, fun x hx => c2 x (by simpa using hx), by rw [prod_reverse]; exact c3⟩

/-! ### the rules -/
theorem first_f {s : List (List Int)} {nums : List Int} (h0 : 0 < s.length) (hc : chk (sh0 s) = true) : infer_first.f s nums = some (sh0 s, true) := by
  have := chk_len hc
  unfold infer_first.f
  rw [if_pos (by omega), show rd_L1 s 0 = sh0 s from rfl, clone_f (by omega)]
  rfl
theorem both_f {s : List (List Int)} {nums : List Int} (h : 1 < s.length) (k : Nat) (hk : 20 ≤ k) : infer_both.f k s nums = some ((join (sh0 s) (sh1 s)).1, (join (sh0 s) (sh1 s)).2 == 0) := by
  unfold infer_both.f
  rw [if_pos (by omega), if_pos (by omega), show rd_L1 s 0 = sh0 s from rfl, show rd_L1 s 1 = sh1 s from rfl, join_f _ _ k hk]
  rfl
theorem rev_f (s : List Int) (hl : s.length ≤ 3) (k : Nat) (hk : 6 ≤ k) : slices_Reverse_int_int.f k s = some s.reverse := by
  refine at_rounds (g := fun k => slices_Reverse_int_int.f k s) (fun k => slices_Reverse_int_int.mono s k) hk ?_
  match s, hl with
  | [], _ => simp [slices_Reverse_int_int.f, slices_Reverse_int_int.l0, wrap64, rd]
  | [a], _ => simp [slices_Reverse_int_int.f, slices_Reverse_int_int.l0, wrap64, rd]
  | [a, b], _ => simp [slices_Reverse_int_int.f, slices_Reverse_int_int.l0, wrap64, rd]
  | [a, b, c], _ => simp [slices_Reverse_int_int.f, slices_Reverse_int_int.l0, wrap64, rd]
  | _ :: _ :: _ :: _ :: _, h => simp at h
theorem given_f {s : List (List Int)} {nums : List Int} (h : nums.length < 17592186044416) : infer_rules_1.f s nums = some (nums, true) := by
  unfold infer_rules_1.f
  rw [clone_f h]
  rfl
theorem param_f {s : List (List Int)} {nums : List Int} (h : 0 < nums.length) (h2 : nums.length < 17592186044416) : infer_rules_2.f s nums = some (nums.drop 1, true) := by
  unfold infer_rules_2.f
  rw [if_pos (by omega), clone_f (by simp; omega)]
  rfl
theorem again_f {s : List (List Int)} {nums : List Int} (h : 0 < s.length) (h2 : nums.length < 17592186044416) (k : Nat) (hk : 10 ≤ k) : infer_rules_4.f k s nums = some (nums, siz nums == siz (sh0 s)) := by
  unfold infer_rules_4.f
  rw [clone_f h2, size_f nums k (by omega)]
  simp only [Option.bind_some]
  rw [if_pos (by omega), show rd_L1 s 0 = sh0 s from rfl, size_f (sh0 s) k (by omega)]
  rfl
theorem turn_f {s : List (List Int)} {nums : List Int} (h : 0 < s.length) (hc : chk (sh0 s) = true) (k : Nat) (hk : 10 ≤ k) : infer_rules_5.f k s nums = some ((sh0 s).reverse, true) := by
  have := chk_len hc
  unfold infer_rules_5.f
  rw [if_pos (by omega), show rd_L1 s 0 = sh0 s from rfl, clone_f (by omega)]
  simp only [Option.bind_some]
  rw [rev_f _ this k (by omega)]
  rfl
theorem product_f {s : List (List Int)} {nums : List Int} (h : 1 < s.length) (k : Nat) (hk : 10 ≤ k) :
    infer_rules_6.f k s nums = some (if (sh0 s).length = 2 ∧ (sh1 s).length = 2 ∧ rd (sh0 s) 1 = rd (sh1 s) 0 then ([rd (sh0 s) 0, rd (sh1 s) 1], chk [rd (sh0 s) 0, rd (sh1 s) 1]) else ([], false)) := by
  unfold infer_rules_6.f
  rw [if_pos (by omega), show rd_L1 s 0 = sh0 s from rfl, show rd_L1 s 1 = sh1 s from rfl]
  by_cases c1 : (sh0 s).length = 2
  · rw [if_pos (by omega), if_pos (by omega)]
    by_cases c2 : (sh1 s).length = 2
    · rw [if_pos (by omega), if_pos (by omega), if_pos (by omega)]
      by_cases c3 : rd (sh0 s) 1 = rd (sh1 s) 0
      · rw [if_pos c3, if_pos (by omega), if_pos (by omega), if_pos ⟨c1, c2, c3⟩]
        simp only [Option.bind_some]
        rw [check_f _ k (by omega)]
        rfl
      · rw [if_neg c3, if_neg (fun e => c3 e.2.2)]
    · rw [if_neg (by omega), if_neg (fun e => c2 e.2.1)]
  · rw [if_neg (by omega), if_neg (fun e => c1 e.1)]
theorem together_f {s : List (List Int)} {i : Nat} {nums : List Int} (h : 0 < s.length) (hc : chk (sh0 s) = true) (hi : i < (sh0 s).length) : infer_together.f s (i : Int) nums = some ((sh0 s).take i ++ (sh0 s).drop (i + 1), true) := by
  have := chk_len hc
  unfold infer_together.f
  rw [if_pos (by omega), show rd_L1 s 0 = sh0 s from rfl, if_pos ⟨by omega, by omega, by omega⟩]
  rfl
theorem part_f {s : List (List Int)} {i : Nat} {nums : List Int} (h : 0 < s.length) (hc : chk (sh0 s) = true) (hi : i < (sh0 s).length) (hn : nums.length = 2) :
    infer_part.f s (i : Int) nums = some (if rd nums 0 < 0 ∨ rd nums 0 ≥ rd nums 1 ∨ rd nums 1 > rd (sh0 s) (i : Int) then ([], false) else ((sh0 s).set i (rd nums 1 - rd nums 0), true)) := by
  have hl := chk_len hc
  have hs := chk_sides hc _ (rdk hi)
  unfold infer_part.f
  rw [if_pos (by omega), if_pos (by omega)]
  by_cases c1 : rd nums 0 < 0
  · rw [if_pos c1, if_pos (.inl c1)]
  · rw [if_neg c1]
    by_cases c2 : rd nums 0 ≥ rd nums 1
    · rw [if_pos c2, if_pos (.inr (.inl c2))]
    · rw [if_neg c2, if_pos (by omega), if_pos (by omega), show rd_L1 s 0 = sh0 s from rfl, if_pos (by omega)]
      by_cases c3 : rd nums 1 > rd (sh0 s) (i : Int)
      · rw [if_pos c3, if_pos (.inr (.inr c3))]
      · rw [if_neg c3, if_neg (by omega), clone_f (by omega)]
        simp only [Option.bind_some]
        rw [if_pos (by omega), w64 (by omega) (by omega)]
        rfl
theorem set_set' (s : List Int) (i : Nat) (a b : Int) : (s.set i a).set i b = s.set i b := by simp
theorem behind_f {s : List (List Int)} {i : Nat} {nums : List Int} (h : 1 < s.length) (hc : chk (sh0 s) = true) (hc1 : chk (sh1 s) = true) (hi : i < (sh0 s).length) (k : Nat) (hk : 10 ≤ k) :
    infer_behind.f k s (i : Int) nums = some (if (sh0 s).length = (sh1 s).length ∧ (sh0 s).set i (rd (sh1 s) (i : Int)) = sh1 s then ((sh0 s).set i (rd (sh0 s) (i : Int) + rd (sh1 s) (i : Int)), chk ((sh0 s).set i (rd (sh0 s) (i : Int) + rd (sh1 s) (i : Int)))) else ([], false)) := by
  have hl := chk_len hc
  have hs := chk_sides hc _ (rdk hi)
  unfold infer_behind.f
  rw [if_pos (by omega), show rd_L1 s 0 = sh0 s from rfl, show rd_L1 s 1 = sh1 s from rfl, clone_f (by omega)]
  simp only [Option.bind_some]
  rw [if_pos (by omega)]
  by_cases c1 : (sh0 s).length = (sh1 s).length
  · have hs1 := chk_sides hc1 _ (rdk (show i < (sh1 s).length by omega))
    rw [if_pos (by omega), if_pos (by omega), if_pos (by omega), if_pos (by omega), Int.toNat_natCast, equal_f _ _ (by simp; omega) k (by simp; omega)]
    simp only [Option.bind_some]
    by_cases c2 : (sh0 s).set i (rd (sh1 s) (i : Int)) = sh1 s
    · rw [if_pos (by simpa using c2), if_pos ⟨c1, c2⟩, set_set']
      have e : rd ((sh0 s).set i (rd (sh1 s) (i : Int))) (i : Int) = rd (sh1 s) (i : Int) := by rw [c2]
      rw [e, w64 (by omega) (by omega), Int.add_comm, check_f _ k (by omega)]
      rfl
    · rw [if_neg (by simpa using c2), if_neg (fun e => c2 e.2)]
  · rw [if_neg (by omega), if_neg (fun e => c1 e.1)]
theorem told_false (s : List Int) : told s false = ([], 20) := rfl
/-- What a rule's answer comes to. -/
def fin (r : List Int × Bool) : List Int × Int := if r.2 = true then (r.1, 0) else ([], 20)
theorem fin_if (c : Prop) [Decidable c] (x y : List Int × Bool) : fin (if c then x else y) = if c then fin x else fin y := by split <;> rfl
theorem fin_told (s : List Int) : fin (s, chk s) = told s true := by
  unfold fin told
  cases h : chk s <;> simp
theorem sided_f {D : List (List Int) → Int → List Int → Option (List Int × Bool)} {s : List (List Int)} {nums : List Int} (h : 0 < s.length) (hn : 0 < nums.length) :
    sidedF D s nums = if 0 ≤ rd nums 0 ∧ rd nums 0 < ((sh0 s).length : Int) then D s (rd nums 0) (nums.drop 1) else some ([], false) := by
  unfold sidedF
  rw [if_pos (by omega), show rd_L1 s 0 = sh0 s from rfl]
  by_cases c1 : rd nums 0 < 0
  · rw [if_pos c1, if_neg (by omega)]
  · rw [if_neg c1, if_pos (by omega)]
    by_cases c2 : rd nums 0 ≥ ((sh0 s).length : Int)
    · rw [if_pos c2, if_neg (by omega)]
    · rw [if_neg c2, if_pos (by omega)]
theorem gkL (op : Int) : gkind op = (kindL.find? (fun p => decide (op = p.1))).map (·.2) := rfl
theorem join_fin (a b : List Int) : fin ((join a b).1, (join a b).2 == 0) = join a b := by
  unfold fin join
  split
  · simp
  · simp
theorem rule_f {op : Int} {nums : List Int} {s : List (List Int)} (ha : (s.length : Int) = arity op) (hn : numsW op nums = true) (hs : s.all chk = true) (hl : nums.length ≤ 4) (k : Nat) (hk : 30 ≤ k) :
    ∃ r, infRule k op s nums = some r ∧ fin r = nodeS op nums s := by
  have hk0 : (gkind op).isSome = true := by
    unfold numsW at hn
    cases h : gkind op with
    | none => rw [h] at hn; cases hn
    | some kd => rfl
  have c0 : 0 < s.length → chk (sh0 s) = true := sh0_len hs
  have c1 : 1 < s.length → chk (sh1 s) = true := sh1_len hs
  rcases gkind_cases hk0 with rfl | rfl | rfl | rfl | rfl | rfl | rfl | rfl | rfl | rfl | rfl | rfl | rfl | rfl | rfl | rfl | rfl | rfl | rfl
  · exact ⟨_, given_f (s := s) (by omega), rfl⟩
  · have hn' : 0 < nums.length := by
      have : numsB (-2) nums = true := hn
      simp [numsB] at this
      omega
    exact ⟨_, param_f (s := s) hn' (by omega), rfl⟩
  · exact ⟨_, rfl, rfl⟩
  · exact ⟨_, both_f (nums := nums) (by have : (s.length : Int) = 2 := ha; omega) k (by omega), join_fin _ _⟩
  · exact ⟨_, both_f (nums := nums) (by have : (s.length : Int) = 2 := ha; omega) k (by omega), join_fin _ _⟩
  · exact ⟨_, both_f (nums := nums) (by have : (s.length : Int) = 2 := ha; omega) k (by omega), join_fin _ _⟩
  · exact ⟨_, both_f (nums := nums) (by have : (s.length : Int) = 2 := ha; omega) k (by omega), join_fin _ _⟩
  · exact ⟨_, first_f (nums := nums) (by have : (s.length : Int) = 1 := ha; omega) (c0 (by have : (s.length : Int) = 1 := ha; omega)), rfl⟩
  · exact ⟨_, first_f (nums := nums) (by have : (s.length : Int) = 1 := ha; omega) (c0 (by have : (s.length : Int) = 1 := ha; omega)), rfl⟩
  · exact ⟨_, first_f (nums := nums) (by have : (s.length : Int) = 1 := ha; omega) (c0 (by have : (s.length : Int) = 1 := ha; omega)), rfl⟩
  · exact ⟨_, first_f (nums := nums) (by have : (s.length : Int) = 1 := ha; omega) (c0 (by have : (s.length : Int) = 1 := ha; omega)), rfl⟩
  · have h2 : (s.length : Int) = 2 := ha
    refine ⟨_, product_f (nums := nums) (by omega) k (by omega), ?_⟩
    show _ = if (sh0 s).length = 2 ∧ (sh1 s).length = 2 ∧ rd (sh0 s) 1 = rd (sh1 s) 0 then told [rd (sh0 s) 0, rd (sh1 s) 1] true else ([], 20)
    by_cases q : (sh0 s).length = 2 ∧ (sh1 s).length = 2 ∧ rd (sh0 s) 1 = rd (sh1 s) 0
    · rw [if_pos q, if_pos q]
      exact fin_told _
    · rw [if_neg q, if_neg q]
      rfl
  · have h2 : (s.length : Int) = 1 := ha
    refine ⟨_, again_f (by omega) (by omega) k (by omega), ?_⟩
    have hc : chk nums = true := hn
    show _ = told nums (decide (siz nums = siz (sh0 s)))
    unfold fin told
    by_cases c : siz nums = siz (sh0 s) <;> simp [c, hc]
  · have h2 : (s.length : Int) = 1 := ha
    exact ⟨_, turn_f (nums := nums) (by omega) (c0 (by omega)) k (by omega), rfl⟩
  · have h2 : (s.length : Int) = 1 := ha
    have hn3 : (nums.length : Int) = 3 := by simpa [numsB] using (show numsB 3 nums = true from hn)
    have e := sided_f (D := infer_part.f) (s := s) (nums := nums) (by omega) (by omega)
    show ∃ r, sidedF infer_part.f s nums = some r ∧ fin r = if 0 ≤ rd nums 0 ∧ rd nums 0 < ((sh0 s).length : Int) then (if rd nums 1 < 0 ∨ rd nums 1 ≥ rd nums 2 ∨ rd nums 2 > rd (sh0 s) (rd nums 0) then ([], 20) else ((sh0 s).set (rd nums 0).toNat (rd nums 2 - rd nums 1), 0)) else ([], 20)
    rw [e]
    by_cases c : 0 ≤ rd nums 0 ∧ rd nums 0 < ((sh0 s).length : Int)
    · rw [if_pos c, if_pos c]
      obtain ⟨i, hi⟩ := Int.eq_ofNat_of_zero_le c.1
      match nums, hn3 with
      | [a, b, d], _ =>
        simp only [rd0, rd1, rd2, List.drop_succ_cons, List.drop_zero] at hi c ⊢
        subst hi
        rw [part_f (by omega) (c0 (by omega)) (by omega) rfl]
        refine ⟨_, rfl, ?_⟩
        simp only [rd0, rd1, Int.toNat_natCast]
        exact fin_if _ _ _
      | [], h => simp at h
      | [_], h => simp at h
      | [_, _], h => simp at h
      | _ :: _ :: _ :: _ :: _, h => simp at h; omega
    · rw [if_neg c, if_neg c]
      exact ⟨_, rfl, rfl⟩
  · have h2 : (s.length : Int) = 2 := ha
    have hn1 : (nums.length : Int) = 1 := by simpa [numsB] using (show numsB 1 nums = true from hn)
    have e := sided_f (D := infer_behind.f k) (s := s) (nums := nums) (by omega) (by omega)
    show ∃ r, sidedF (infer_behind.f k) s nums = some r ∧ fin r = if 0 ≤ rd nums 0 ∧ rd nums 0 < ((sh0 s).length : Int) then (if (sh0 s).length = (sh1 s).length ∧ (sh0 s).set (rd nums 0).toNat (rd (sh1 s) (rd nums 0)) = sh1 s then told ((sh0 s).set (rd nums 0).toNat (rd (sh0 s) (rd nums 0) + rd (sh1 s) (rd nums 0))) true else ([], 20)) else ([], 20)
    rw [e]
    by_cases c : 0 ≤ rd nums 0 ∧ rd nums 0 < ((sh0 s).length : Int)
    · rw [if_pos c, if_pos c]
      obtain ⟨i, hi⟩ := Int.eq_ofNat_of_zero_le c.1
      rw [hi] at c ⊢
      rw [behind_f (by omega) (c0 (by omega)) (c1 (by omega)) (by omega) k (by omega)]
      refine ⟨_, rfl, ?_⟩
      rw [Int.toNat_natCast]
      by_cases q : (sh0 s).length = (sh1 s).length ∧ (sh0 s).set i (rd (sh1 s) (i : Int)) = sh1 s
      · rw [if_pos q, if_pos q]
        exact fin_told _
      · rw [if_neg q, if_neg q]
        rfl
    · rw [if_neg c, if_neg c]
      exact ⟨_, rfl, rfl⟩
  · have h2 : (s.length : Int) = 1 := ha
    have hn1 : (nums.length : Int) = 1 := by simpa [numsB] using (show numsB 1 nums = true from hn)
    have e := sided_f (D := infer_together.f) (s := s) (nums := nums) (by omega) (by omega)
    show ∃ r, sidedF infer_together.f s nums = some r ∧ fin r = if 0 ≤ rd nums 0 ∧ rd nums 0 < ((sh0 s).length : Int) then ((sh0 s).take (rd nums 0).toNat ++ (sh0 s).drop ((rd nums 0).toNat + 1), 0) else ([], 20)
    rw [e]
    by_cases c : 0 ≤ rd nums 0 ∧ rd nums 0 < ((sh0 s).length : Int)
    · rw [if_pos c, if_pos c]
      obtain ⟨i, hi⟩ := Int.eq_ofNat_of_zero_le c.1
      rw [hi] at c ⊢
      rw [together_f (by omega) (c0 (by omega)) (by omega)]
      exact ⟨_, rfl, by rw [Int.toNat_natCast]; rfl⟩
    · rw [if_neg c, if_neg c]
      exact ⟨_, rfl, rfl⟩
  · have h2 : (s.length : Int) = 1 := ha
    have hn1 : (nums.length : Int) = 1 := by simpa [numsB] using (show numsB 1 nums = true from hn)
    have e := sided_f (D := infer_together.f) (s := s) (nums := nums) (by omega) (by omega)
    show ∃ r, sidedF infer_together.f s nums = some r ∧ fin r = if 0 ≤ rd nums 0 ∧ rd nums 0 < ((sh0 s).length : Int) then ((sh0 s).take (rd nums 0).toNat ++ (sh0 s).drop ((rd nums 0).toNat + 1), 0) else ([], 20)
    rw [e]
    by_cases c : 0 ≤ rd nums 0 ∧ rd nums 0 < ((sh0 s).length : Int)
    · rw [if_pos c, if_pos c]
      obtain ⟨i, hi⟩ := Int.eq_ofNat_of_zero_le c.1
      rw [hi] at c ⊢
      rw [together_f (by omega) (c0 (by omega)) (by omega)]
      exact ⟨_, rfl, by rw [Int.toNat_natCast]; rfl⟩
    · rw [if_neg c, if_neg c]
      exact ⟨_, rfl, rfl⟩
  · have h2 : (s.length : Int) = 1 := ha
    have hn1 : (nums.length : Int) = 1 := by simpa [numsB] using (show numsB 1 nums = true from hn)
    have e := sided_f (D := infer_together.f) (s := s) (nums := nums) (by omega) (by omega)
    show ∃ r, sidedF infer_together.f s nums = some r ∧ fin r = if 0 ≤ rd nums 0 ∧ rd nums 0 < ((sh0 s).length : Int) then ((sh0 s).take (rd nums 0).toNat ++ (sh0 s).drop ((rd nums 0).toNat + 1), 0) else ([], 20)
    rw [e]
    by_cases c : 0 ≤ rd nums 0 ∧ rd nums 0 < ((sh0 s).length : Int)
    · rw [if_pos c, if_pos c]
      obtain ⟨i, hi⟩ := Int.eq_ofNat_of_zero_le c.1
      rw [hi] at c ⊢
      rw [together_f (by omega) (c0 (by omega)) (by omega)]
      exact ⟨_, rfl, by rw [Int.toNat_natCast]; rfl⟩
    · rw [if_neg c, if_neg c]
      exact ⟨_, rfl, rfl⟩
theorem numsW_len {op : Int} {nums : List Int} (h : numsW op nums = true) : nums.length ≤ 4 := by
  unfold numsW at h
  cases hk : gkind op with
  | none => rw [hk] at h; cases h
  | some kd =>
    rw [hk] at h
    exact numsB_len h (kind_rng hk).2.2.2.2.2
theorem node_f (op : Int) (a nums : List Int) (s : List (List Int)) (k : Nat) (hk : 30 ≤ k) : infer_Node.f k op a nums s = some (nodeF op nums s) := by
  unfold infer_Node.f nodeF
  rw [arit_eq]
  by_cases c1 : (s.length : Int) = arity op
  · rw [if_neg (by omega), ndG_chk op _ nums (by unfold mx; split <;> omega), wrong_any]
    cases c2 : numsW op nums with
    | false => simp
    | true =>
      cases c3 : s.all chk with
      | false => simp
      | true =>
        obtain ⟨r, h1, h2⟩ := rule_f c1 c2 c3 (numsW_len c2) k hk
        simp only [Bool.true_eq_false, if_false, Bool.not_true, Bool.false_eq_true, and_self, and_true, if_true]
        rw [h1, if_pos c1]
        simp only [Option.bind_some]
        rw [← h2]
        rfl
  · rw [if_pos c1, if_neg (fun e => c1 e.1)]
end Go.Proofs.Ytalmgghhpgfgoaa.Plain
