/- What the document tells of one node's shape, in plain words: the same; no conditions. -/
import Derived.Test.YtalmgghhpgfgoaaGraphR
import Derived.Test.YtalmgghhpgfgoaaAx17
import Derived.Test.YtalmgghhpgfgoaaAx13
import Derived.Test.YtalmgghhpgfgoaaAx16
import Derived.Test.YtalmgghhpgfgoaaAx14
namespace Go.Proofs.Ytalmgghhpgfgoaa.Plain
open Go.RowKit Go.Proofs.Ytalmgghhpgfgoaa.A Go.Proofs.YtalmgghhpgfgoaaW.PrintWords Go.Proofs.YtalmgghhpgfgoaaW.PrintLast Go.Proofs.YtalmgghhpgfgoaaW.PrintMore
set_option linter.unusedVariables false
set_option linter.unusedSimpArgs false
theorem z0 : wrap64 (0 + 1) = 1 := by simp [wrap64]
theorem z1 : wrap64 (1 + 1) = 2 := by simp [wrap64]
theorem rwith_eq {l : List Int} {i : Nat} (v : Int) : fullerref11_with.f l (i : Int) v = (if ([] : List Int).length + l.length < 17592186044416 then (if 0 ≤ (i : Int) then (if (i : Int) < (l.length : Int) then some (l.set (i : Int).toNat v) else none) else none) else none) := by
  unfold fullerref11_with.f
  rw [Option.bind_some]
  split
  · rw [Option.bind_some]; rfl
  · rfl
theorem rwith_f {l : List Int} {i : Nat} (h : i < l.length) (hl : l.length ≤ 1000) (v : Int) : fullerref11_with.f l (i : Int) v = some (l.set i v) := by
  rw [rwith_eq, if_pos (by simp; omega), if_pos (by omega), if_pos (by omega), Int.toNat_natCast]
theorem rwithout_f {l : List Int} {i : Nat} (h : i < l.length) (hl : l.length ≤ 1000) : fullerref11_without.f l (i : Int) = some (l.take i ++ l.drop (i + 1)) := by
  have e : wrap64 ((i : Int) + 1) = ((i + 1 : Nat) : Int) := by unfold wrap64; omega
  have l1 : (l.take i).length ≤ 1000 := by rw [List.length_take]; omega
  have l2 : (l.drop (i + 1)).length ≤ 1000 := by rw [List.length_drop]; omega
  unfold fullerref11_without.f
  rw [Option.bind_some, if_pos (by omega), if_pos (by omega), Int.toNat_natCast, if_pos (by rw [List.length_nil]; omega), Option.bind_some, e, if_pos (by omega), if_pos (by omega), Int.toNat_natCast, if_pos (by rw [List.length_append, List.length_nil]; omega), List.nil_append]
theorem rtold_f (s : List Int) (b : Bool) (k : Nat) (hk : 10 ≤ k) : fullerref11_told.f k s b = some (told s b) := by
  unfold fullerref11_told.f told
  rw [rcheck_f s k hk]
  simp only [Option.bind_some]
  cases b <;> cases chk s <;> rfl
theorem raxis_f (s : List Int) (a : Int) : fullerref11_axis.f s a = some (decide (0 ≤ a ∧ a < (s.length : Int))) := by
  unfold fullerref11_axis.f
  by_cases h : a ≥ 0
  · rw [if_pos h]
    exact congrArg some (decide_eq_decide.mpr ⟨fun e => ⟨h, e⟩, fun e => e.2⟩)
  · rw [if_neg h, decide_eq_false (fun e => h e.1)]
theorem rrev_l1 {x : List (List Int)} {s : List Int} (h0 : 0 < x.length) (e : rd_L1 x 0 = s) (hl : s.length ≤ 3) (k : Nat) (hk : 4 ≤ k) : fullerref11_Node.l1 k x [] (wrap64 ((s.length : Int) - 1)) = some (s.reverse, 0) := by
  obtain ⟨k, rfl⟩ : ∃ q, k = q + 4 := ⟨k - 4, by omega⟩
  match s, hl with
  | [], _ => simp [fullerref11_Node.l1, e, h0, wrap64, rd]
  | [a], _ => simp [fullerref11_Node.l1, e, h0, wrap64, rd]
  | [a, b], _ => simp [fullerref11_Node.l1, e, h0, wrap64, rd]
  | [a, b, c], _ => simp [fullerref11_Node.l1, e, h0, wrap64, rd]
  | _ :: _ :: _ :: _ :: _, h => simp at h
theorem ar_cases (op : Int) : arity op = -1 ∨ arity op = 0 ∨ arity op = 1 ∨ arity op = 2 := by
  unfold arity
  cases h : gkind op with
  | none => exact .inl rfl
  | some kd =>
    have := kind_rng h
    simp only
    omega
theorem ralone_f (op : Int) (a nums : List Int) (k : Nat) (hk : 3300 ≤ k) : fullerref11_alone.f k op a nums = some (numsW op nums) := by
  obtain ⟨k, rfl⟩ : ∃ q, k = q + 3 := ⟨k - 3, by omega⟩
  unfold fullerref11_alone.f
  rcases ar_cases op with h | h | h | h
  · rw [fullerref11_alone.l0, rarity_f _ _ (by omega)]
    simp only [Option.bind_some]
    rw [if_neg (by omega), rgchk_f _ _ (by omega), ← ndG_chk op 0 nums (by rw [h]; rfl)]
    rfl
  · rw [fullerref11_alone.l0, rarity_f _ _ (by omega)]
    simp only [Option.bind_some]
    rw [if_neg (by omega), rgchk_f _ _ (by omega), ← ndG_chk op 0 nums (by rw [h]; rfl)]
    rfl
  · rw [fullerref11_alone.l0, rarity_f _ _ (by omega)]
    simp only [Option.bind_some]
    rw [if_pos (by omega), if_pos (by simp), fullerref11_alone.l0, rarity_f _ _ (by omega)]
    simp only [Option.bind_some]
    rw [if_neg (by rw [h, z0]; decide), rgchk_f _ _ (by omega), ← ndG_chk op 1 nums (by rw [h]; rfl)]
    rfl
  · rw [fullerref11_alone.l0, rarity_f _ _ (by omega)]
    simp only [Option.bind_some]
    rw [if_pos (by omega), if_pos (by simp), fullerref11_alone.l0, rarity_f _ _ (by omega)]
    simp only [Option.bind_some]
    rw [if_pos (by rw [h, z0]; decide), if_pos (by simp), fullerref11_alone.l0, rarity_f _ _ (by omega)]
    simp only [Option.bind_some]
    rw [if_neg (by rw [h, z0, z1]; decide), rgchk_f _ _ (by omega), ← ndG_chk op 2 nums (by rw [h]; rfl)]
    rfl
theorem rn_l0 (x : List (List Int)) (op : Int) (a nums : List Int) (hx : x.length ≤ 1000000) (d : Nat) : ∀ (k j : Nat), x.length - j = d → j ≤ x.length → 20 ≤ k →
    fullerref11_Node.l0 (k + d + 1) x (j : Int) op a nums = if ((x.drop j).all chk) = true then fullerref11_Node.l0 (k + 1) x (x.length : Int) op a nums else some ([], 20) := by
  induction d with
  | zero =>
    intro k j hd hj hk
    obtain rfl : j = x.length := by omega
    simp
  | succ d ih =>
    intro k j hd hj hk
    have hjl : j < x.length := by omega
    have er : rd_L1 x (j : Int) = x[j] := by simp [rd_L1, hjl]
    have e : wrap64 ((j : Int) + 1) = ((j + 1 : Nat) : Int) := by unfold wrap64; omega
    rw [show k + (d + 1) + 1 = k + d + 1 + 1 by omega, fullerref11_Node.l0, if_pos (by omega), if_pos (by omega), er, rcheck_f _ _ (by omega), List.drop_eq_getElem_cons hjl, List.all_cons]
    simp only [Option.bind_some]
    cases hc : chk x[j] with
    | false => simp
    | true =>
      rw [if_pos rfl, e, ih k (j + 1) (by omega) (by omega) hk]
      simp
theorem cut_set {s t : List Int} {i : Nat} (hi : i < s.length) (h : s.length = t.length) : (s.take i ++ s.drop (i + 1) = t.take i ++ t.drop (i + 1)) ↔ s.set i (rd t (i : Int)) = t := by
  have hit : i < t.length := by omega
  rw [set_at hi]
  conv => rhs; rhs; rw [← self_set hit, set_at hit]
  constructor
  · intro e
    have := List.append_inj e (by simp; omega)
    rw [this.1, this.2]
  · intro e
    have := List.append_inj e (by simp; omega)
    rw [this.1, (List.cons.inj this.2).2]
theorem rmore_f {op : Int} {a nums : List Int} {s : List (List Int)} (ho : op = 30 ∨ op = 42 ∨ op = 43 ∨ op = 50 ∨ op = 51 ∨ op = 52) (ha : (s.length : Int) = arity op) (hn : numsW op nums = true) (hs : s.all chk = true) (k : Nat) (hk : 60 ≤ k) :
    fullerref11_more.f k op a nums s = some (nodeS op nums s) := by
  have c0 : 0 < s.length → chk (sh0 s) = true := sh0_len hs
  have c1 : 1 < s.length → chk (sh1 s) = true := sh1_len hs
  unfold fullerref11_more.f
  by_cases h30 : op = 30
  · subst h30
    have h2 : (s.length : Int) = 2 := ha
    rw [if_pos (by omega), if_pos rfl, if_pos (by omega), show rd_L1 s 0 = sh0 s from rfl, show rd_L1 s 1 = sh1 s from rfl]
    show _ = some (if (sh0 s).length = 2 ∧ (sh1 s).length = 2 ∧ rd (sh0 s) 1 = rd (sh1 s) 0 then told [rd (sh0 s) 0, rd (sh1 s) 1] true else ([], 20))
    by_cases q1 : (sh0 s).length = 2
    · rw [if_pos (by omega)]
      by_cases q2 : (sh1 s).length = 2
      · rw [if_pos (by omega), if_pos (by omega), if_pos (by omega)]
        by_cases q3 : rd (sh0 s) 1 = rd (sh1 s) 0
        · rw [if_pos q3, if_pos (by omega), if_pos (by omega), rtold_f _ _ _ (by omega), if_pos ⟨q1, q2, q3⟩]
          rfl
        · rw [if_neg q3, if_neg (fun e => q3 e.2.2)]
      · rw [if_neg (by omega), if_neg (fun e => q2 e.2.1)]
    · rw [if_neg (by omega), if_neg (fun e => q1 e.1)]
  · have hk5 : ∃ c : Int, (c = 1 ∨ c = 3) ∧ (nums.length : Int) = c ∧ (op = 42 → c = 3) := by
      rcases ho with h | h | h | h | h | h
      · exact absurd h h30
      · subst h; exact ⟨3, .inr rfl, by simpa [numsB] using (show numsB 3 nums = true from hn), fun _ => rfl⟩
      · subst h; exact ⟨1, .inl rfl, by simpa [numsB] using (show numsB 1 nums = true from hn), fun e => absurd e (by decide)⟩
      · subst h; exact ⟨1, .inl rfl, by simpa [numsB] using (show numsB 1 nums = true from hn), fun e => absurd e (by decide)⟩
      · subst h; exact ⟨1, .inl rfl, by simpa [numsB] using (show numsB 1 nums = true from hn), fun e => absurd e (by decide)⟩
      · subst h; exact ⟨1, .inl rfl, by simpa [numsB] using (show numsB 1 nums = true from hn), fun e => absurd e (by decide)⟩
    obtain ⟨c, hc, hl, h42⟩ := hk5
    have hs0 : 0 < s.length ∧ (op = 43 → s.length = 2) := by
      rcases ho with h | h | h | h | h | h
      · exact absurd h h30
      · subst h; have : (s.length : Int) = 1 := ha; exact ⟨by omega, fun e => absurd e (by decide)⟩
      · subst h; have : (s.length : Int) = 2 := ha; exact ⟨by omega, fun _ => by omega⟩
      · subst h; have : (s.length : Int) = 1 := ha; exact ⟨by omega, fun e => absurd e (by decide)⟩
      · subst h; have : (s.length : Int) = 1 := ha; exact ⟨by omega, fun e => absurd e (by decide)⟩
      · subst h; have : (s.length : Int) = 1 := ha; exact ⟨by omega, fun e => absurd e (by decide)⟩
    have g0 := c0 hs0.1
    have gl := chk_len g0
    rw [if_pos (by omega), if_neg h30, if_pos (by omega), show rd_L1 s 0 = sh0 s from rfl, show rd_L1 s 1 = sh1 s from rfl, raxis_f]
    simp only [Option.bind_some]
    have un : nodeS op nums s = if 0 ≤ rd nums 0 ∧ rd nums 0 < ((sh0 s).length : Int) then
        (if op = 42 then (if rd nums 1 < 0 ∨ rd nums 1 ≥ rd nums 2 ∨ rd nums 2 > rd (sh0 s) (rd nums 0) then ([], 20) else ((sh0 s).set (rd nums 0).toNat (rd nums 2 - rd nums 1), 0))
        else if op = 43 then (if (sh0 s).length = (sh1 s).length ∧ (sh0 s).set (rd nums 0).toNat (rd (sh1 s) (rd nums 0)) = sh1 s then told ((sh0 s).set (rd nums 0).toNat (rd (sh0 s) (rd nums 0) + rd (sh1 s) (rd nums 0))) true else ([], 20))
        else ((sh0 s).take (rd nums 0).toNat ++ (sh0 s).drop ((rd nums 0).toNat + 1), 0)) else ([], 20) := by
      rcases ho with h | h | h | h | h | h
      · exact absurd h h30
      all_goals (subst h; rfl)
    rw [un]
    by_cases c : 0 ≤ rd nums 0 ∧ rd nums 0 < ((sh0 s).length : Int)
    · rw [if_pos (decide_eq_true c), if_pos c]
      obtain ⟨i, hi⟩ := Int.eq_ofNat_of_zero_le c.1
      rw [hi] at c ⊢
      rw [Int.toNat_natCast]
      have his : i < (sh0 s).length := by omega
      have sd0 := chk_sides g0 _ (rdk his)
      by_cases e42 : op = 42
      · have := h42 e42
        rw [if_pos e42, if_pos e42, if_pos (by omega), if_pos (by omega)]
        by_cases q1 : rd nums 1 < 0
        · rw [if_pos q1, if_pos (.inl q1)]
        · rw [if_neg q1]
          by_cases q2 : rd nums 1 ≥ rd nums 2
          · rw [if_pos q2, if_pos (.inr (.inl q2))]
          · rw [if_neg q2, if_pos (by omega), if_pos (by omega)]
            by_cases q3 : rd nums 2 > rd (sh0 s) (i : Int)
            · rw [if_pos q3, if_pos (.inr (.inr q3))]
            · rw [if_neg q3, if_neg (by omega), w64 (by omega) (by omega), rwith_f his (by omega)]
              rfl
      · rw [if_neg e42, if_neg e42]
        by_cases e43 : op = 43
        · have hs2 := hs0.2 e43
          have g1 := c1 (by omega)
          have gl1 := chk_len g1
          rw [if_pos e43, if_pos e43, if_pos (by omega)]
          obtain ⟨k, rfl⟩ : ∃ q, k = q + 1 := ⟨k - 1, by omega⟩
          by_cases q1 : (sh0 s).length = (sh1 s).length
          · have hi1 : i < (sh1 s).length := by omega
            have sd1 := chk_sides g1 _ (rdk hi1)
            rw [if_pos (by omega), rwithout_f his (by omega), rwithout_f hi1 (by omega)]
            simp only [Option.bind_some]
            rw [same_f _ _ (by simp; omega) _ (by simp; omega)]
            simp only [Option.bind_some]
            by_cases q2 : (sh0 s).set i (rd (sh1 s) (i : Int)) = sh1 s
            · rw [decide_eq_true ((cut_set his q1).mpr q2), if_pos ⟨q1, q2⟩, fullerref11_more.j0, if_neg (by decide), if_pos (by omega), if_pos (by omega), if_pos (by omega), w64 (by omega) (by omega), rwith_f his (by omega)]
              simp only [Option.bind_some]
              rw [rtold_f _ _ _ (by omega)]
              rfl
            · rw [decide_eq_false (fun e => q2 ((cut_set his q1).mp e)), if_neg (fun e => q2 e.2), fullerref11_more.j0, if_pos (by decide)]
          · rw [if_neg (by omega), if_neg (fun e => q1 e.1), fullerref11_more.j0, if_pos rfl]
        · rw [if_neg e43, if_neg e43, rwithout_f his (by omega)]
          rfl
    · rw [if_neg (by simpa using c), if_neg c]
theorem rn_rest {op : Int} {a nums : List Int} {s : List (List Int)} (ha : (s.length : Int) = arity op) (hn : numsW op nums = true) (hs : s.all chk = true) (k : Nat) (hk : 150 ≤ k) :
    fullerref11_Node.l0 (k + 3) s (s.length : Int) op a nums = some (nodeS op nums s) := by
  have hk0 : (gkind op).isSome = true := by
    unfold numsW at hn
    cases h : gkind op with
    | none => rw [h] at hn; cases hn
    | some kd => rfl
  have c0 : 0 < s.length → chk (sh0 s) = true := sh0_len hs
  have e0 : rd_L1 s 0 = sh0 s := rfl
  have e1 : rd_L1 s 1 = sh1 s := rfl
  have jn : ∀ op, (s.length : Int) = 2 → fullerref11_Node.j2 (k + 2) s op true op a nums = some (join (sh0 s) (sh1 s)) := fun op h2 => by
    rw [fullerref11_Node.j2, if_pos rfl, if_pos (by omega), if_pos (by omega), e0, e1, rjoin_f _ _ _ (by omega)]
    rfl
  have fs : ∀ op, (s.length : Int) = 1 → fullerref11_Node.j3 (k + 1) s op true op a nums = some (sh0 s, 0) := fun op h2 => by
    rw [fullerref11_Node.j3, if_pos rfl, if_pos (by omega), e0]
  have mo : ∀ op, (op = 30 ∨ op = 42 ∨ op = 43 ∨ op = 50 ∨ op = 51 ∨ op = 52) → (s.length : Int) = arity op → numsW op nums = true → ((fullerref11_more.f k op a nums s).bind fun bt457 => (some (bt457.1, bt457.2))) = some (nodeS op nums s) := fun op h1 h2 h3 => by
    rw [rmore_f h1 h2 h3 hs k (by omega)]
    rfl
  rw [fullerref11_Node.l0, if_neg (by omega)]
  rcases gkind_cases hk0 with rfl | rfl | rfl | rfl | rfl | rfl | rfl | rfl | rfl | rfl | rfl | rfl | rfl | rfl | rfl | rfl | rfl | rfl | rfl
  · rfl
  · have hn' : 0 < nums.length := by
      have : numsB (-2) nums = true := hn
      simp [numsB] at this
      omega
    (repeat (first | rw [if_neg (by decide)] | rw [if_pos (by decide)]))
    rw [if_pos (by omega)]
    rfl
  · rfl
  · (repeat (first | rw [if_neg (by decide)] | rw [if_pos (by decide)])); exact jn _ ha
  · (repeat (first | rw [if_neg (by decide)] | rw [if_pos (by decide)])); exact jn _ ha
  · (repeat (first | rw [if_neg (by decide)] | rw [if_pos (by decide)])); exact jn _ ha
  · (repeat (first | rw [if_neg (by decide)] | rw [if_pos (by decide)])); exact jn _ ha
  · (repeat (first | rw [if_neg (by decide)] | rw [if_pos (by decide)])); rw [show ((20 : Int) == 13) = false from by decide, fullerref11_Node.j2]; (repeat (first | rw [if_neg (by decide)] | rw [if_pos (by decide)])); exact fs _ ha
  · (repeat (first | rw [if_neg (by decide)] | rw [if_pos (by decide)])); rw [show ((21 : Int) == 13) = false from by decide, fullerref11_Node.j2]; (repeat (first | rw [if_neg (by decide)] | rw [if_pos (by decide)])); exact fs _ ha
  · (repeat (first | rw [if_neg (by decide)] | rw [if_pos (by decide)])); rw [show ((22 : Int) == 13) = false from by decide, fullerref11_Node.j2]; (repeat (first | rw [if_neg (by decide)] | rw [if_pos (by decide)])); exact fs _ ha
  · (repeat (first | rw [if_neg (by decide)] | rw [if_pos (by decide)])); rw [show ((23 : Int) == 13) = false from by decide, fullerref11_Node.j2]; (repeat (first | rw [if_neg (by decide)] | rw [if_pos (by decide)])); exact fs _ ha
  · (repeat (first | rw [if_neg (by decide)] | rw [if_pos (by decide)])); rw [show ((30 : Int) == 13) = false from by decide, fullerref11_Node.j2]; (repeat (first | rw [if_neg (by decide)] | rw [if_pos (by decide)])); rw [show ((30 : Int) == 23) = false from by decide, fullerref11_Node.j3]; (repeat (first | rw [if_neg (by decide)] | rw [if_pos (by decide)])); exact mo _ (by decide) ha hn
  · have h2 : (s.length : Int) = 1 := ha
    (repeat (first | rw [if_neg (by decide)] | rw [if_pos (by decide)])); rw [show ((40 : Int) == 13) = false from by decide, fullerref11_Node.j2]; (repeat (first | rw [if_neg (by decide)] | rw [if_pos (by decide)])); rw [show ((40 : Int) == 23) = false from by decide, fullerref11_Node.j3]; (repeat (first | rw [if_neg (by decide)] | rw [if_pos (by decide)]))
    rw [rsize_f _ _ (by omega)]
    simp only [Option.bind_some]
    rw [if_pos (by omega), e0, rsize_f _ _ (by omega)]
    simp only [Option.bind_some]
    rw [rtold_f _ _ _ (by omega)]
    show some (told nums (siz nums == siz (sh0 s))) = some (told nums (decide (siz nums = siz (sh0 s))))
    rfl
  · have h2 : (s.length : Int) = 1 := ha
    (repeat (first | rw [if_neg (by decide)] | rw [if_pos (by decide)])); rw [show ((41 : Int) == 13) = false from by decide, fullerref11_Node.j2]; (repeat (first | rw [if_neg (by decide)] | rw [if_pos (by decide)])); rw [show ((41 : Int) == 23) = false from by decide, fullerref11_Node.j3]; (repeat (first | rw [if_neg (by decide)] | rw [if_pos (by decide)]))
    rw [if_pos (by omega), e0, rrev_l1 (by omega) e0 (chk_len (c0 (by omega))) k (by omega)]
    rfl
  · (repeat (first | rw [if_neg (by decide)] | rw [if_pos (by decide)])); rw [show ((42 : Int) == 13) = false from by decide, fullerref11_Node.j2]; (repeat (first | rw [if_neg (by decide)] | rw [if_pos (by decide)])); rw [show ((42 : Int) == 23) = false from by decide, fullerref11_Node.j3]; (repeat (first | rw [if_neg (by decide)] | rw [if_pos (by decide)])); exact mo _ (by decide) ha hn
  · (repeat (first | rw [if_neg (by decide)] | rw [if_pos (by decide)])); rw [show ((43 : Int) == 13) = false from by decide, fullerref11_Node.j2]; (repeat (first | rw [if_neg (by decide)] | rw [if_pos (by decide)])); rw [show ((43 : Int) == 23) = false from by decide, fullerref11_Node.j3]; (repeat (first | rw [if_neg (by decide)] | rw [if_pos (by decide)])); exact mo _ (by decide) ha hn
  · (repeat (first | rw [if_neg (by decide)] | rw [if_pos (by decide)])); rw [show ((50 : Int) == 13) = false from by decide, fullerref11_Node.j2]; (repeat (first | rw [if_neg (by decide)] | rw [if_pos (by decide)])); rw [show ((50 : Int) == 23) = false from by decide, fullerref11_Node.j3]; (repeat (first | rw [if_neg (by decide)] | rw [if_pos (by decide)])); exact mo _ (by decide) ha hn
  · (repeat (first | rw [if_neg (by decide)] | rw [if_pos (by decide)])); rw [show ((51 : Int) == 13) = false from by decide, fullerref11_Node.j2]; (repeat (first | rw [if_neg (by decide)] | rw [if_pos (by decide)])); rw [show ((51 : Int) == 23) = false from by decide, fullerref11_Node.j3]; (repeat (first | rw [if_neg (by decide)] | rw [if_pos (by decide)])); exact mo _ (by decide) ha hn
  · (repeat (first | rw [if_neg (by decide)] | rw [if_pos (by decide)])); rw [show ((52 : Int) == 13) = false from by decide, fullerref11_Node.j2]; (repeat (first | rw [if_neg (by decide)] | rw [if_pos (by decide)])); rw [show ((52 : Int) == 23) = false from by decide, fullerref11_Node.j3]; (repeat (first | rw [if_neg (by decide)] | rw [if_pos (by decide)])); exact mo _ (by decide) ha hn
theorem rnode_f (op : Int) (a nums : List Int) (s : List (List Int)) (k : Nat) (hk : 3400 ≤ k) : fullerref11_Node.f k op a nums s = some (nodeF op nums s) := by
  obtain ⟨k, rfl⟩ : ∃ q, k = q + 7 := ⟨k - 7, by omega⟩
  unfold fullerref11_Node.f nodeF
  rw [ralone_f op a nums _ (by omega), rarity_f _ _ (by omega)]
  simp only [Option.bind_some]
  have bad : fullerref11_Node.j0 (k + 7) s true op a nums = some ([], 20) := by rw [fullerref11_Node.j0, if_pos rfl]
  cases h1 : numsW op nums with
  | false => rw [if_neg (by decide), bad, if_neg (fun e => by simp at e)]
  | true =>
    rw [if_pos rfl]
    by_cases h2 : (s.length : Int) = arity op
    · have hs2 : s.length ≤ 2 := by have := ar_cases op; omega
      rw [show ((s.length : Int) != arity op) = false from by simp [h2], fullerref11_Node.j0, if_neg (by decide)]
      have key := rn_l0 s op a nums (by omega) s.length (k + 5 - s.length) 0 (by omega) (by omega) (by omega)
      rw [show k + 5 - s.length + s.length + 1 = k + 6 by omega] at key
      rw [show ((0 : Nat) : Int) = 0 from rfl, List.drop_zero] at key
      rw [key]
      cases h3 : s.all chk with
      | false => rw [if_neg (by decide), if_neg (fun e => by simp at e)]
      | true =>
        rw [if_pos rfl, if_pos ⟨h2, rfl, rfl⟩, show k + 5 - s.length + 1 = (k + 3 - s.length) + 3 by omega]
        exact rn_rest h2 h1 h3 _ (by omega)
    · rw [show ((s.length : Int) != arity op) = true from by simp [h2], bad, if_neg (fun e => h2 e.1)]
end Go.Proofs.Ytalmgghhpgfgoaa.Plain
